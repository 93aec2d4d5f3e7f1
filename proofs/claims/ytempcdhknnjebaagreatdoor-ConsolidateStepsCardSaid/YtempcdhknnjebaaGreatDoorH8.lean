/- Functions walked: what each of them answers, for the law of steps: part 8. Conditions: those that each theorem names. -/
import Derived.Test.YtempcdhknnjebaaGreatDoorH7
namespace Go.Proofs.YtempcdhknnjebaaGreatDoor
open Go Go.Ev
theorem Jz {xs ys:List AV} {n:Nat} (h:xs.length=n):((xs++ys).drop 0).take n=xs:=List.take_left' h
noncomputable abbrev zD:AV:=IF 0 0 0
theorem Vs (X:List PDeed) (g:Nat) (a i y:Int) (q:PDeed→Bool) (m:Nat) (hq : ∀ d,kP 127 [aJ d, .pptr [vk g] 0 0, .pptr [IF a i y] 0 0] (.bool (q d))) (hm:m<X.length) (hs:X.length<2 ^ 30) (hA : ∀ k,k<m→q (gD X k)=false) (hB:q (gD X m)=true):kD 88 [.slice 0 0 0 X.length none,qn g a i y] (aa [ic 0 X]) (nV m) (aa [ic 0 X]):=by
  have hk : ∀ x,x≤m→q (gD X x)=true→x=m:=fun x h1 h2=>by
    rcases fV x m with h | h
    · rw [hA x h] at h2;cases h2
    · omega
  have hk2 : ∀ x,x≤m→q (gD X x)=false→x+1≤m:=fun x h1 h2=>by
    rcases fV x m with h | h
    · exact h
    · rw [show x=m by omega,hB] at h2;cases h2
  let q1:=aa [aZ 28 true 0 (X.map aJ)];exact Na Tryz.func88<|Mg 3<|X3 (0:Nat) [0,1,7,8] (fun b=>([aG 0 0 0 X.length none,bZ (bQ 127) [] [AV.pptr [bZ (bQ g) [] []] 0 0,AV.pptr [aw [iV a,iV i,iV y,iV 0,ak,ak,iV 0,iV 0,iV 0,iV 0,iV 0,iV 0,aj [],ak,ak,ak,ak,ak,aj [],aj [],iV 0,iV 0,aj [],iV 0,iV 0,iV 0,aj [],ak]] 0 0],nV X.length,nV b],[aZ 28 true 0<|X.map aJ])) (fun b=>b≤m) (fun b=>X.length - b) (by exact bE _) fun b c e=>have c:=c;Ka 0 (Int.ofNat b) (Int.ofNat X.length) (fun _ _=>K1 4 .rix (et (aU 0) (oA:b<X.length))<|Mr (et (aU 0)<|aR aJ (oA:b<(X).length))<|Mp (hq<|gD X b)<|Mb (q<|gD X b) (fun _=>Kf 1<|et (by (rw [hk _ c (by assumption)]):(nV b)=(nV m))<|aU q1) fun _=>Kl 0 18 (jY b)<|Kf 0<|e (b+1) (by exact hk2 _ c (by assumption))<|by (omega)) fun _ _=>Kf 0<|et (by (exfalso;(simp only [oN] at *;omega)):(iV (-1))=(nV m))<|aU q1
theorem Vo (X:List PDeed) (g:Nat) (a i y:Int) (q:PDeed→Bool) (hq : ∀ d,kP 127 [aJ d, .pptr [vk g] 0 0, .pptr [IF a i y] 0 0] (.bool (q d))) (hs:X.length<2 ^ 30) (hA : ∀ k,k<X.length→q (gD X k)=false):kD 88 [.slice 0 0 0 X.length none,qn g a i y] (aa [ic 0 X]) (iV (-1)) (aa [ic 0 X]):=by
  exact fk Tryz.func88 fun b=>Mg 3<|X3 (0:Nat) [0,1,7,8] (fun b=>([aG 0 0 0 X.length none,bZ (bQ 127) [] [AV.pptr [bZ (bQ g) [] []] 0 0,AV.pptr [aw [iV a,iV i,iV y,iV 0,ak,ak,iV 0,iV 0,iV 0,iV 0,iV 0,iV 0,aj [],ak,ak,ak,ak,ak,aj [],aj [],iV 0,iV 0,aj [],iV 0,iV 0,iV 0,aj [],ak]] 0 0],nV X.length,nV b],[aZ 28 true 0<|X.map aJ])) (fun b=>b≤X.length) (fun b=>X.length - b) (by exact bE _) fun c e f=>have :=e;Ka 0 (Int.ofNat c) (Int.ofNat X.length) (fun _ _=>K1 4 .rix (et (aU 0) (by (simp only [oN,lM,lS] at *;omega):c<X.length))<|Mr (et (aU 0)<|aR aJ (by (simp only [oN,lM,lS] at *;omega):c<(X).length))<|Mp (hq<|gD X c)<|Mb (q<|gD X c) (fun _=>Kf 1<|et (by (have z:=hA c (by (simp only [oN] at *;omega));simp_all;done):(nV c)=(iV (-1)))<|aU<|aa [aZ 28 true 0<|X.map aJ]) fun _=>Kl 0 18 (jY c)<|Kf 0<|f (c+1) (by (simp only [oN] at *;omega))<|by (simp only [oN] at *;omega)) fun _ _=>Kf 0 b
noncomputable abbrev U0 (X:List PDeed) (m:Nat):AObj:= .row 28 true 0 ((X.take m).map aJ++List.replicate (X.length - m) zD)
theorem XD {X:List PDeed} {m:Nat} (h:m≤X.length):bp (X.map aJ) m (List.replicate (X.length - m) zD)=(X.take m).map aJ++List.replicate (X.length - m) zD:=by
  unfold bp
  rw [lR,AP (by rw [lM];omega),ed,List.map_take]
theorem V8 (X:List PDeed) (g:Nat) (a i y:Int) (m:Nat) (hq : ∀ k,m≤k→k<X.length→kP 127 [aJ (gD X k), .pptr [vk g] 0 0, .pptr [IF a i y] 0 0] (.bool true)) (hm:m<X.length) (hs:X.length<2 ^ 30) (hf:kD 88 [.slice 0 0 0 X.length none,qn g a i y] (aa [ic 0 X]) (nV m) (aa [ic 0 X])):kD 125 [.slice 0 0 0 X.length none,qn g a i y] (aa [ic 0 X]) (.slice 0 0 0 m none) (aa [U0 X m]):=by
  have e1:ab (Int.ofNat m) (-1)=false:=by rw [o8];exact decide_eq_false (by simp only [oN];omega)
  have e3:(X.take m).length=m:=by rw [BQ];omega
  let q:=aa [aZ 28 true 0 (X.map aJ)];let q1:=aG 0 0 m (X.length - m) none;exact fk Tryz.func125 fun b=>Ke 2 hf<|Kl 5 15 (jY m)<|Mg 0<|X3 (m+1) [0,1,5,6] (fun b=>([aG 0 0 0 X.length none,bZ (bQ 127) [] [AV.pptr [bZ (bQ g) [] []] 0 0,AV.pptr [aw [iV a,iV i,iV y,iV 0,ak,ak,iV 0,iV 0,iV 0,iV 0,iV 0,iV 0,aj [],ak,ak,ak,ak,ak,aj [],aj [],iV 0,iV 0,aj [],iV 0,iV 0,iV 0,aj [],ak]] 0 0],nV m,nV b],[aZ 28 true 0<|X.map aJ])) (fun b=>m+1≤b∧b≤X.length) (fun b=>X.length - b) (by exact ⟨by (omega),by (omega)⟩) fun c d e=>have :=d;Ka 3 (Int.ofNat c) (Int.ofNat X.length) (fun _ _=>K1 1 .rix (et (aU 0) (by (simp only [oN,lM,lS] at *;omega):c<X.length))<|Mr (et (aU 0)<|aR aJ (by (simp only [oN,lM,lS] at *;omega):c<(X).length))<|Kp 3 (hq c (by (omega))<|by (simp only [oN] at *;omega))<|Kl 3 21 (jY c)<|K1 0 (.frz 1 [0,1,5,6]) (et (tR 28 true 0 1<|aX wb X) ti)<|Mf<|e (c+1) (by exact ⟨by (omega),by (simp only [oN] at *;omega)⟩)<|by (simp only [oN] at *;omega)) fun _ _=>Ko 1 (by exact CM (xs:=X.map aJ) (l:=m) (h:=X.length) (by kernel_rfl) (by rfl) (by rfl) (by omega) (by rw [lM];omega) (by omega) (by omega):bq q (dJ (28) q ((some (AV.slice 0 0 0 X.length none))) ((some (nV m))) (none) (none))=some (ARes.val q1 q))<|Mo (by exact DC rfl (by kernel_rfl) (XD (by omega)):fY (vv (28) (AV.agg [iV 0,iV 0,iV 0,iV 0,AV.nils,AV.nils,iV 0,iV 0,iV 0,iV 0,iV 0,iV 0,AV.str [],AV.nils,AV.nils,AV.nils,AV.nils,AV.nils,AV.str [],AV.str [],iV 0,iV 0,AV.str [],iV 0,iV 0,iV 0,AV.str [],AV.nils]) q ((some q1)))=some (ARes.val (AV.tuple []) (aa [AObj.row 28 true 0 ((X.take m).map aJ++List.replicate (X.length - m) zD)])))<|K1 1 .slc (cH (aU 0) (oA:0≤m) (by (simp only [oN,lM,lS,lA,lR,lC,lN] at * <;> omega):m≤((X.take m).map aJ++List.replicate (X.length - m) zD).length))<|Kf 0 b
theorem KC (X:List PDeed) (g:Nat) (a i y:Int) (q:PDeed→Bool) (m:Nat) (hq : ∀ d,kP 127 [aJ d, .pptr [vk g] 0 0, .pptr [IF a i y] 0 0] (.bool (q d))) (hm:m<X.length) (hs:X.length<2 ^ 30) (hA : ∀ k,k<m→q (gD X k)=false) (hB : ∀ k,m≤k→k<X.length→q (gD X k)=true):kD 125 [.slice 0 0 0 X.length none,qn g a i y] (aa [ic 0 X]) (.slice 0 0 0 m none) (aa [U0 X m]):=
  V8 X g a i y m (fun k h1 h2=>hB k h1 h2 ▸ hq (gD X k)) hm hs (Vs X g a i y q m hq hm hs hA (hB m (af _) hm))
theorem Tu (X:List PDeed) (g:Nat) (a i y:Int) (q:PDeed→Bool) (hq : ∀ d,kP 127 [aJ d, .pptr [vk g] 0 0, .pptr [IF a i y] 0 0] (.bool (q d))) (hs:X.length<2 ^ 30) (hA : ∀ k,k<X.length→q (gD X k)=false):kD 125 [.slice 0 0 0 X.length none,qn g a i y] (aa [ic 0 X]) (.slice 0 0 0 X.length none) (aa [ic 0 X]):=by
  have hf:=Vo X g a i y q hq hs hA
  exact fk Tryz.func125 fun b=>Ke 2 hf<|Kf 5 b
theorem K4 (X:List PDeed) (g:Nat) (a i y:Int) (m:Nat) (hm:m<X.length) (hs:X.length<2 ^ 30) (hc:kD 126 [.ls (X.map aJ)] (aa []) (.slice 0 0 0 X.length none) (aa [ic 0 X])) (hd:kD 125 [.slice 0 0 0 X.length none,qn g a i y] (aa [ic 0 X]) (.slice 0 0 0 m none) (aa [U0 X m])):kP 72 [.ls (X.map aJ),IF a i y,vk g] (.ls ((X.take m).map aJ)):=by
  have e3:(X.take m).length=m:=by rw [BQ];omega
  let q:=List.map aJ (X.take m);exact bg Tryz.func72<|K1 3 (.frz 0 [4,5,7]) ti<|Me hc<|Ke 0 hd<|Mg 0<|M2 (.fsl 0 [] 6 q) ti (cH (aU 0) (Jz (ys:=List.replicate (X.length - m) zD) (by (rw [lM];exact e3):((X.take m).map aJ).length=m))<|aX wb<|X.take m)<|Ml 6 (fg q false<|aX wb<|X.take m)<|Mf<|bV<|aW q
theorem T6 (X:List PDeed) (g:Nat) (a i y:Int) (hz:X≠ []) (hs:X.length<2 ^ 30) (hc:kD 126 [.ls (X.map aJ)] (aa []) (.slice 0 0 0 X.length none) (aa [ic 0 X])) (hd:kD 125 [.slice 0 0 0 X.length none,qn g a i y] (aa [ic 0 X]) (.slice 0 0 0 X.length none) (aa [ic 0 X])):kP 72 [.ls (X.map aJ),IF a i y,vk g] (.ls (X.map aJ)):=by
  let q:=List.map aJ X;exact bg Tryz.func72<|K1 3 (.frz 0 [4,5,7]) ti<|Me hc<|Ke 0 hd<|Mg 0<|M2 (.fsl 0 [] 6 q) ti (cH (aU 0) (tA aJ X X.length rfl)<|aX wb X)<|Ml 6 (fg q false<|aX wb X)<|Mf<|bV<|aW q
theorem Oh (gs:List PGaz) (L:List PAct) (a i y:Int) (hL:L.length<10000) (ha:kP 63 [.ls (gs.map ao)] (.ls (L.map ay))) (hd : ∀ b,b∈L→b.number=a→b.day=y) (hx : ∃ b,b∈L∧b.number=a):kP 71 [pf a i, .ls (gs.map ao)] (.tuple [IF a i y, .bool true]):=by
  have rr0 b' (h:(y)=b':=by (rw [hd _ (aM zD0 hr0) (iq ‹_›)])):=h;exact bg Tryz.func71<|Kp 3 ha<|Kl 0 10 (ln ay L)<|Mg 0<|rB ay L [2,4,9,10,11] (fun c _=>([bJ 0 0 0 0,bJ 1 0 0 0,aW<|L.map ay,nV L.length,nV c],[aZ 2 false 0 [aw [iV a,iV i]],aZ 28 false 0 [aw [iV 0,iV 0,iV 0,iV 0,ak,ak,iV 0,iV 0,iV 0,iV 0,iV 0,iV 0,aj [],ak,ak,ak,ak,ak,aj [],aj [],iV 0,iV 0,aj [],iV 0,iV 0,iV 0,aj [],ak]]])) (fun c=>∃ b,b∈c∧b.number=a) (by (exact hx)) (fun _ _ zD0 _ hr0 _ c=>Mw .abs (by simp at c:False)) fun c _ zD0 _ d f g hr0 j _ k l=>Kt 0 j<|Mx k<|Kj 7 d.number a (fun _ _=>Kf 8 (cn<|.cons (aL (lc<|lc<|.cons (li<|rr0 d.day)<|lc<|lc<|lc<|lc<|lc<|lc<|lc<|lc<|lc<|lc<|lc<|lc<|lc<|lc<|lc<|lc<|lc<|lc<|lc<|lc<|lc<|lc<|lc<|lc<|lc .nil)<|by kernel_rfl)<|lc .nil:Le _ (cK [aw [iV a,iV i,iV d.day,iV 0,ak,ak,iV 0,iV 0,iV 0,iV 0,iV 0,iV 0,aj [],ak,ak,ak,ak,ak,aj [],aj [],iV 0,iV 0,aj [],iV 0,iV 0,iV 0,aj [],ak],eu true]))) fun _ _=>Kl 0 27 (dB c)<|K1 0 (.frz 2 [2,4,9,10,11]) (cH rt rt ti)<|Mf<|g<|by (obtain ⟨b,hb,e⟩:=l;rcases fz.1 hb with h | h;exact absurd (h ▸ e) (by assumption);exact ⟨b,h,e⟩)
theorem Ju (gs:List PGaz) (day:Int) (p:aO) (X Y:List PDeed) (g:Nat) (a i y:Int) (u:TUnit) (m:List PFail) (hr:kP 33 [iV day, .str p, .ls (gs.map ao)] (.ls (X.map aJ))) (hp:kP 71 [pf a i, .ls (gs.map ao)] (.tuple [IF a i y, .bool true])) (ha:kP 72 [.ls (X.map aJ),IF a i y,vk g] (.ls (Y.map aJ))) (hb:kP 34 [.ls (Y.map aJ)] (.tuple [eU u, .ls (m.map dx)])):kP 43 [iV day, .str p,pf a i, .ls (gs.map ao),vk g] (eU u):=by
  exact bg Tryz.func43<|Kp 3 hp<|Kp 11 hr<|Kp 4 ha<|Mp hb<|Kf 7<|bV<|aw [iV u.act,iV u.item,iV u.n,iV u.kind,aj u.label,aW<|u.head.map aQ,aW<|u.words.map aQ,aW<|u.kids.map aV]
theorem NZ (gs:List PGaz) (day:Int) (p:aO) (a i:Int) (u:TUnit) (h:kP 43 [iV day, .str p,pf a i, .ls (gs.map ao),vk 44] (eU u)):kP 25 [iV day, .str p,pf a i, .ls (gs.map ao)] (eU u):=by
  exact bg Tryz.func25<|Kp 5 h<|Kf 0<|bV<|aw [iV u.act,iV u.item,iV u.n,iV u.kind,aj u.label,aW<|u.head.map aQ,aW<|u.words.map aQ,aW<|u.kids.map aV]
theorem He (gs:List PGaz) (day:Int) (p:aO) (a i:Int) (u:TUnit) (h:kP 43 [iV day, .str p,pf a i, .ls (gs.map ao),vk 49] (eU u)):kP 27 [iV day, .str p,pf a i, .ls (gs.map ao)] (eU u):=by
  exact bg Tryz.func27<|Kp 5 h<|Kf 0<|bV<|aw [iV u.act,iV u.item,iV u.n,iV u.kind,aj u.label,aW<|u.head.map aQ,aW<|u.words.map aQ,aW<|u.kids.map aV]
def HV (a i:Int) (d:PDeed):Bool:=ab d.act a && ab d.item i
def G0 (a i:Int) (d:PFail):Bool:=ab d.act a && ab d.item i
theorem TK (a i:Int) (d:PDeed):kP 50 [aJ d, .pptr [pf a i] 0 0] (.bool (HV a i d)):=by
  have rr0 b' (h:(HV a i d)=b':=by (simp only [HV,aP,aS,ax,bS, *];first | done | rfl)):=h;exact bg Tryz.func50<|Kj 7 d.act a (fun b _=>Kt 0 b<|Kt 0 b<|Kt 0 b<|Kt 0 b<|Ku 0 b<|Kf 0<|b9<|rr0<|ab d.item i) fun b _=>Mh b<|Mh b<|Mh b<|Mh b<|My b<|Ky 0<|rr0 false
theorem TW (a i:Int) (d:PFail):kP 51 [dx d, .pptr [pf a i] 0 0] (.bool (G0 a i d)):=by
  have rr0 b' (h:(G0 a i d)=b':=by (simp only [G0,aP,aS,ax,bS, *];first | done | rfl)):=h;exact bg Tryz.func51<|Kj 7 d.act a (fun b _=>Kt 0 b<|Kt 0 b<|Kt 0 b<|Kt 0 b<|Ku 0 b<|Kf 0<|b9<|rr0<|ab d.item i) fun b _=>Mh b<|Mh b<|Mh b<|Mh b<|My b<|Ky 0<|rr0 false
theorem Vr (a i:Int) (l:List PDeed) (hl:l.length<2 ^ 40):kP 88 [.ls (l.map aJ), .func (.func 50) [] [.pptr [pf a i] 0 0]] (iV (cS (HV a i) l 0)):=by
  have rr0 b' (h:(cS (HV a i) l 0)=b':=by first | exact j9 zD0 hr0 hj0 ‹_› | exact hj0):=h;exact bg Tryz.func88<|Kl 2 7 (ln aJ l)<|Mg 0<|rB aJ l [0,1,7,8] (fun b _=>([aW<|l.map aJ,bZ (bQ 50) [] [AV.pptr [aw [iV a,iV i]] 0 0],nV l.length,nV b],[])) (fun b=>cS (HV a i) l (0:Nat)=cS (HV a i) b (l.length - b.length)) (by (exact B7)) (fun _ _ zD0 _ hr0 b hj0=>Kh 0 b<|Kf 0<|li<|rr0 (-1)) fun b _ zD0 _ c d e hr0 f _ g hj0=>Kt 0 f<|Kx 4 g<|Kp 0 (TK a i c)<|Mb (HV a i c) (fun _=>Kf 1<|li<|rr0<|Int.ofNat b) fun _=>Kl 0 18 (dB b)<|Kf 0<|e<|by exact ig zD0 hr0 hj0 (by assumption)
theorem Vp (a i:Int) (l:List PFail) (hl:l.length<2 ^ 40):kP 89 [.ls (l.map dx), .func (.func 51) [] [.pptr [pf a i] 0 0]] (iV (cS (G0 a i) l 0)):=by
  have rr0 b' (h:(cS (G0 a i) l 0)=b':=by first | exact j9 zD0 hr0 hj0 ‹_› | exact hj0):=h;exact bg Tryz.func89<|Kl 2 7 (ln dx l)<|Mg 0<|rB dx l [0,1,7,8] (fun b _=>([aW<|l.map dx,bZ (bQ 51) [] [AV.pptr [aw [iV a,iV i]] 0 0],nV l.length,nV b],[])) (fun b=>cS (G0 a i) l (0:Nat)=cS (G0 a i) b (l.length - b.length)) (by (exact B7)) (fun _ _ zD0 _ hr0 b hj0=>Kh 0 b<|Kf 0<|li<|rr0 (-1)) fun b _ zD0 _ c d e hr0 f _ g hj0=>Kt 0 f<|Kx 4 g<|Kp 0 (TW a i c)<|Mb (G0 a i c) (fun _=>Kf 1<|li<|rr0<|Int.ofNat b) fun _=>Kl 0 18 (dB b)<|Kf 0<|e<|by exact ig zD0 hr0 hj0 (by assumption)
theorem WV (a i:Int) (l:List PDeed) (hl:l.length<2 ^ 40):kP 52 [.ls (l.map aJ), .func (.func 50) [] [.pptr [pf a i] 0 0]] (.bool (l.any (HV a i))):=by
  have h:=Vr a i l hl
  have rr0 b' (h:(l.any (HV a i))=b':=by (rw [jj];simp only [aS,ax,bS,pq])):=h;exact bg Tryz.func52<|Kp 2 h<|Kf 1<|b9<|rr0<|ax<|ar (cS (HV a i) l 0) 0
theorem WK (a i:Int) (l:List PFail) (hl:l.length<2 ^ 40):kP 53 [.ls (l.map dx), .func (.func 51) [] [.pptr [pf a i] 0 0]] (.bool (l.any (G0 a i))):=by
  have h:=Vp a i l hl
  have rr0 b' (h:(l.any (G0 a i))=b':=by (rw [jj];simp only [aS,ax,bS,pq])):=h;exact bg Tryz.func53<|Kp 2 h<|Kf 1<|b9<|rr0<|ax<|ar (cS (G0 a i) l 0) 0
theorem TJ (gs:List PGaz) (day:Int) (p:aO) (a i:Int) (X:List PDeed) (F:List PFail) (hr:kP 33 [iV day, .str p, .ls (gs.map ao)] (.ls (X.map aJ))) (hf:kP 15 [iV day, .str p, .ls (gs.map ao)] (.ls (F.map dx))) (hX:X.length<2 ^ 30) (hF:F.length<2 ^ 30):kP 28 [iV day, .str p,pf a i, .ls (gs.map ao)] (.bool (X.any (HV a i) && ax (F.any (G0 a i)))):=by
  have h1:=WV a i X (by omega)
  have h2:=WK a i F (by omega)
  have rr0 b' (h:(X.any (HV a i) && ax (F.any (G0 a i)))=b':=by (simp only [aS,ax,bS, *];first | done | rfl)):=h;exact bg Tryz.func28<|Kp 8 hr<|K1 0 (.frz 0 [0,1,3,10,16,17]) ti<|Mp h1<|Kb 0 (X.any<|HV a i) (fun b=>Kt 0 b<|Kt 0 b<|Kt 0 b<|Mp hf<|Mt b<|Kt 0 b<|Mp h2<|Mt b<|Ku 0 b<|Kf 0<|b9<|rr0<|ax<|F.any<|G0 a i) fun b=>Mh b<|Mh b<|Mh b<|Mh b<|Mh b<|Mh b<|My b<|Ky 0<|rr0 false
theorem Qk:kP 24 [] (eU lF):=by
  exact wk Tryz.func24 (.go 2 .fin) (aL (lc<|lc<|lc<|lc<|lc<|.cons bo<|.cons bo<|.cons bo .nil)<|by kernel_rfl:Le _ (AV.agg [iV 0,iV 0,iV 0,iV 0,AV.str [],AV.nils,AV.nils,AV.nils]))
/-- What the law of steps asks of what it calls. -/
structure StpC (day:Int) (p:aO) (gs:List PGaz) (X:List PDeed) (bk:Nat→TUnit) (er:Nat→Int):Prop where
  b : ∀ k,k<X.length→kP 25 [iV day, .str p,pf (gD X k).act (gD X k).item, .ls (gs.map ao)] (eU (bk k))
  t : ∀ k,k<X.length→kP 27 [iV day, .str p,pf (gD X k).act (gD X k).item, .ls (gs.map ao)] (eU (bk (k+1)))
  h : ∀ k,k<X.length→kP 28 [iV day, .str p,pf (gD X k).act (gD X k).item, .ls (gs.map ao)] (.bool (ab (er k) 0))
  a : ∀ k,k<X.length→kP 26 [eU (bk k),aJ (gD X k)] (.tuple [eU (bk (k+1)),iV (er k)])
  s : ∀ k j,k=j→k≤X.length→kP 11 [eU (bk k),eU (bk j)] (.bool true)
  e:kP 12 [iV day, .str p, .ls (gs.map ao)] (eU (bk X.length))
  o:kP 20 [iV day, .str p, .ls (gs.map ao)] (.ls (X.map aJ))
  z:kP 24 [] (eU (bk 0))
  l:X.length<2 ^ 30
theorem UH (day:Int) (p:aO) (gs:List PGaz) (haw:kP 9 [] (.bool true)) (hw:kP 10 [.ls (gs.map ao), .str p] (.bool false)):kP 8 [iV day, .str p, .ls (gs.map ao)] (.bool true):=by
  exact bg Tryz.func8<|Kp 0 haw<|Kp 3 hw<|Kf 2<|bV<|eu true
theorem UI (day:Int) (p:aO) (gs:List PGaz) (X:List PDeed) (bk:Nat→TUnit) (er:Nat→Int) (haw:kP 9 [] (.bool true)) (hw:kP 10 [.ls (gs.map ao), .str p] (.bool true)) (hc:StpC day p gs X bk er):kP 8 [iV day, .str p, .ls (gs.map ao)] (.bool true):=by
  obtain ⟨cb,ct,ch,ca,cs,ce,co,cz,cl⟩:=hc
  have rr0 b' (h:(true)=b':=by (exfalso;simp_all;done)):=h;exact bg Tryz.func8<|Kp 0 haw<|Kp 3 hw<|Kp 1 cz<|Kp 4 co<|Mg 1<|X3 (0:Nat) [0,1,2,7,8,9] (fun a=>([iV day,aj p,aW<|gs.map ao,bJ 0 0 0 0,aW<|X.map aJ,nV a],[aZ 8 false 0 [aw [iV (bk a).act,iV (bk a).item,iV (bk a).n,iV (bk a).kind,aj (bk a).label,aW<|List.map aQ (bk a).head,aW<|List.map aQ (bk a).words,aW<|List.map aV (bk a).kids]]])) (fun a=>a≤X.length) (fun a=>X.length - a) (by exact bE _) fun a b c=>have b:=b;Kl 2 26 (ln aJ X)<|Ka 0 (Int.ofNat a) (Int.ofNat X.length) (fun _ _=>Kx 1 (aR aJ (by (simp only [oN,lM,lS] at *;omega):a<(X).length))<|Kx 3 (aR aJ (by (simp only [oN,lM,lS] at *;omega):a<(X).length))<|Kp 8 (cb a<|by (simp only [oN] at *;omega))<|Kp 0 (cs a a (by (omega)) b)<|Kx 4 (aR aJ (by (simp only [oN,lM,lS] at *;omega):a<(X).length))<|Kp 0 (ca a<|by (simp only [oN] at *;omega))<|Kp 11 (ct a<|by (simp only [oN] at *;omega))<|Kp 0 (cs (a+1) (a+1) (by (omega))<|by (simp only [oN] at *;omega))<|Kp 5 (ch a<|by (simp only [oN] at *;omega))<|Kn 3 (ab (er a) 0==ab (er a) 0) (fun _=>Kf 0<|b9<|rr0 false) fun _=>Kl 1 29 (jY a)<|K1 0 (.frz 1 [0,1,2,7,8,9]) (et rt ti)<|Mf<|c (a+1) (by (simp only [oN] at *;omega))<|by (simp only [oN] at *;omega)) fun _ _=>Kp 2 ce<|Kp 0 (cs X.length a (by (simp only [oN] at *;omega))<|by (omega))<|Kf 0<|bV<|eu true
def Nd (l:List PAct):Prop:=(l.map (·.number)).Nodup
theorem Ru {out:List PAct} {a:PAct} (h:Nd out):Nd (jU out a):=by
  unfold jU
  cases q:gy a.number (out.map fun b=>(b.number,true)) with
  | some v=>exact h
  | none=>
    unfold Nd
    rw [pu,List.nodup_append]
    refine ⟨h,by simp,fun x hx y hy=>?_⟩
    obtain ⟨b,hb,rfl⟩:=jr.1 hx
    simp only [ee,vg,nI] at hy
    rw [hy];exact oZ (out:=out) q b hb
theorem En : ∀ (ys out:List PAct),Nd out→Nd (ys.foldl jU out)
  | [],_,h=>h
  | _::r,_,h=>En r _ (Ru h)
theorem CX : ∀ (gs:List PGaz) (out:List PAct),Nd out→Nd (bX gs out)
  | [],_,h=>h
  | g::r,_,h=>CX r _ (En g.acts _ h)
theorem UZ (gs:List PGaz):(eg gs).Pairwise fun a b=>eR a b=true:=by
  have h1:=(sL iD (bX gs []) [] .nil).2
  have h2:Nd (eg gs):=((jo gs).map _).nodup_iff.2 (CX gs [] (by simp [Nd]))
  have h3:(eg gs).Pairwise fun a b=>a.number≠b.number:=List.pairwise_map.1 h2
  refine (List.Pairwise.and h1 h3).imp fun {a b} h=>?_
  obtain ⟨p,q⟩:=h
  rw [kH]
  rw [← Bool.not_eq_true,kH] at p
  omega
/-- The legal order of amendments. -/
def Ry (d e:PDeed):Prop:=d.day<e.day∨(d.day=e.day∧(d.act<e.act∨(d.act=e.act∧d.item<e.item)))
theorem mO (a:PAct) : ∀ (l:List PItem) (i:Nat),(bL a l i).Pairwise Ry∧∀ d,d∈bL a l i→d.act=a.number∧d.day=a.day∧Int.ofNat i≤d.item
  | [],_=>⟨.nil,fun _ h=>by cases h⟩
  | x::r,i=>by
    obtain ⟨h1,h2⟩:=mO a r (i+1)
    refine ⟨.cons (fun d hd=>?_) h1,fun d hd=>?_⟩
    · obtain ⟨q1,q2,q3⟩:=h2 d hd
      exact .inr ⟨q2.symm, .inr ⟨q1.symm,by simp only [oN] at *;omega⟩⟩
    · rcases fz.1 hd with rfl | hd
      · exact ⟨rfl,rfl,Int.le_refl _⟩
      · obtain ⟨q1,q2,q3⟩:=h2 d hd
        exact ⟨q1,q2,by simp only [oN] at *;omega⟩
theorem wB : ∀ (L:List PAct),(L.Pairwise fun a b=>eR a b=true)→(kY L).Pairwise Ry
  | [],_=> .nil
  | a::r,h=>by
    cases h with
    | cons h1 h2=>
      rw [kY,EY,List.pairwise_append]
      refine ⟨(mO a _ 0).1,wB r h2,fun d hd e he=>?_⟩
      obtain ⟨b,hb,he⟩:=List.mem_flatMap.1 he
      have z:=(kH a b).1 (h1 b hb)
      obtain ⟨p1,p2,_⟩:=(mO a _ 0).2 d hd
      obtain ⟨q1,q2,_⟩:=(mO b _ 0).2 e he
      unfold Ry;omega
theorem Ik (m:sm) (d:PDeed):(lK m d).act=d.act∧(lK m d).item=d.item∧(lK m d).day=d.day:=by
  unfold lK;split <;> exact ⟨rfl,rfl,rfl⟩
theorem P2 (day:Int) (p:aO) (gs:List PGaz):(jK day p gs).Pairwise Ry:=by
  have h:(ql gs).Pairwise Ry:=List.pairwise_map.2 ((wB _ (UZ gs)).imp fun {d e} h=>by
    have h1:=Ik (al (eg gs) []) d
    have h2:=Ik (al (eg gs) []) e
    unfold Ry at *;omega)
  exact h.filter _
theorem L9 {day:Int} {p:aO} {gs:List PGaz} {d:PDeed} (h:d∈jK day p gs) : ∃ a,a∈eg gs∧a.number=d.act∧a.day=d.day:=by
  obtain ⟨o,ho,rfl⟩:=jr.1 (xC.1 h).1
  obtain ⟨a,ha,hoa⟩:=List.mem_flatMap.1 ho
  obtain ⟨q1,q2,_⟩:=(mO a _ 0).2 o hoa
  obtain ⟨p1,_,p3⟩:=Ik (al (eg gs) []) o
  exact ⟨a,ha,by omega,by omega⟩
theorem Cr {gs:List PGaz} {a b:PAct} (ha:a∈eg gs) (hb:b∈eg gs) (e:a.number=b.number):a=b:=
  qb gs [] (fun _ _ h=>by cases h) a b ((jo gs).mem_iff.1 ha) ((jo gs).mem_iff.1 hb) e
theorem XK (x:Int) (r:List Int):Br (x::r)=if x=0 then Br r else x:=by
  rw [Br]
  cases q:ab x 0 with
  | true=>rw [if_pos (iq q)]
  | false=>rw [if_neg (CY q)]
theorem WQ (a b:Int):gw a b=if a<b then -1 else if b<a then 1 else 0:=by
  unfold gw
  cases q:ar a b with
  | true=>rw [if_pos (ap q)]
  | false=>
    have:=aF q
    rw [if_neg (by omega)]
    cases q2:ar b a with
    | true=>rw [if_pos (ap q2)]
    | false=>have:=aF q2;rw [if_neg (by omega)]
theorem IA (d:PDeed) (a i y:Int):(d.day<y∨(d.day=y∧(d.act<a∨(d.act=a∧d.item<i)))→wR d a i y = -1)∧(d.day=y→d.act=a→d.item=i→wR d a i y=0)∧(y<d.day∨(y=d.day∧(a<d.act∨(a=d.act∧i<d.item)))→wR d a i y=1):=by
  have e:Br []=0:=rfl
  unfold wR
  simp only [XK,WQ,e]
  refine ⟨fun h=>?_,fun h1 h2 h3=>?_,fun h=>?_⟩ <;> (repeat' split) <;> omega
theorem Ch : ∀ (l m:List PDeed) (u:TUnit),bG u (l++m)=bG (bG u l) m
  | [],_,_=>rfl
  | d::r,m,u=>Ch r m (nO u d)
theorem PR {α:Type} [Inhabited α] {l:List α} {i:Nat} (h:i<l.length):gD l i=l[i]:=by simp [gD,List.getD,kR h]
theorem RA {α:Type} [Inhabited α] {l:List α} {k:Nat} (h:k<l.length):l.take (k+1)=l.take k++ [gD l k]:=by
  rw [PR h,List.take_append_getElem h]
theorem zl : ∀ (l:List PDeed) (u:TUnit) (e:PFail),e∈dP u l↔∃ k,k<l.length∧e∈v8 (bG u (l.take k)) (gD l k)
  | [],u,e=>⟨(fun h=>by cases h),fun ⟨k,h,_⟩=>absurd h (px _)⟩
  | d::r,u,e=>by
    rw [dP,kj,zl r (nO u d) e]
    constructor
    · rintro (h | ⟨k,h1,h2⟩)
      · exact ⟨0,xB _,h⟩
      · exact ⟨k+1,Nat.succ_lt_succ h1,h2⟩
    · rintro ⟨k,h1,h2⟩
      cases k with
      | zero=>exact .inl h2
      | succ k=>exact .inr ⟨k,Nat.lt_of_succ_lt_succ h1,h2⟩
theorem Wc {day:Int} {p:aO} {gs:List PGaz} {d:PDeed} (h:d∈jK day p gs):pn d.it.kind=true:=(nF.1 (xC.1 h).2).1
theorem JV {X:List PDeed} (h:X.Pairwise Ry) {k j:Nat} (hk:k<j) (hj:j<X.length):Ry (gD X k) (gD X j):=by
  rw [PR hj,PR (show k<X.length by omega)]
  exact EU.1 h k j (by omega) hj hk
theorem WB {gs:List PGaz} (ok:OkG gs) (day:Int) (p:aO):StpC day p gs (jK day p gs) (fun k=>bG lF ((jK day p gs).take k)) (fun k=>(iw (bG lF ((jK day p gs).take k)) (gD (jK day p gs) k)).2):=by
  obtain ⟨hl,hi,ho⟩:=ok.force day p
  have hup:=P2 day p gs
  have ham : ∀ d,d∈jK day p gs→pn d.it.kind=true:=fun d h=>Wc h
  have hac : ∀ d,d∈jK day p gs→∃ a,a∈eg gs∧a.number=d.act∧a.day=d.day:=fun d h=>L9 h
  have hbk:=ok.book day p
  have hfl:=ok.fails day p
  unfold Up at hbk
  generalize jK day p gs=X at *
  have hr:=Dp gs day p X ho
  have hB : ∀ k,OkB (bG lF (X.take k)):=fun k=>GR Qv fun d hd=>hi d (pG hd)
  have hmem : ∀ k,k<X.length→gD X k∈X:=fun k hk=>iQ hk
  have hd : ∀ k,kP 34 [.ls ((X.take k).map aJ)] (.tuple [eU (bG lF (X.take k)), .ls ((dP lF (X.take k)).map dx)]):=fun k=>zL _ (by rw [BQ];omega) fun d h=>hi d (pG h)
  have hp : ∀ k,k<X.length→kP 71 [pf (gD X k).act (gD X k).item, .ls (gs.map ao)] (.tuple [IF (gD X k).act (gD X k).item (gD X k).day, .bool true]):=fun k hk=>by
    obtain ⟨a,h1,h2,h3⟩:=hac _ (hmem k hk)
    exact Oh gs (eg gs) _ _ _ (nG ok.lens.1 (by decide)) ok.all.1 (fun b hb e=>by rw [Cr hb h1 (e.trans h2.symm),h3]) ⟨a,h1,h2⟩
  have hz : ∀ k,k<X.length→X≠ []:=fun k hk e=>by rw [e] at hk;cases hk
  have hlt : ∀ k j,k<j→j<X.length→wR (gD X k) (gD X j).act (gD X j).item (gD X j).day = -1:=fun k j h1 h2=>(IA ..).1 (JV hup h1 h2)
  have heq : ∀ j,wR (gD X j) (gD X j).act (gD X j).item (gD X j).day=0:=fun j=>(IA ..).2.1 rfl rfl rfl
  have hgt : ∀ k j,j<k→k<X.length→wR (gD X k) (gD X j).act (gD X j).item (gD X j).day=1:=fun k j h1 h2=>(IA ..).2.2 (by have:=JV hup h1 h2;unfold Ry at this;omega)
  have hst : ∀ k,k<X.length→bG lF (X.take (k+1))=(iw (bG lF (X.take k)) (gD X k)).1:=fun k hk=>by
    rw [RA hk,Ch]
    show nO _ _=_
    unfold nO
    rw [ham _ (hmem k hk)];rfl
  refine ⟨fun k hk=>?_,fun k hk=>?_,fun k hk=>?_,fun k hk=>?_,fun k j e hk=>?_,?_,ho,Qk,hl⟩
  · refine NZ gs day p _ _ _ (Ju gs day p X (X.take k) _ _ _ _ _ _ hr (hp k hk) ?_ (hd k))
    refine K4 X _ _ _ _ k hk hl (vw X (hz k hk) hl) (KC X _ _ _ _ _ k (fun d=>DO d _ _ _ _ _ TP) hk hl (fun j hj=>?_) fun j h1 h2=>?_)
    · rw [hlt j k hj hk];rfl
    · rcases Nat.eq_or_lt_of_le h1 with h | h
      · rw [← h,heq];rfl
      · rw [hgt j k h h2];rfl
  · refine He gs day p _ _ _ (Ju gs day p X (X.take (k+1)) _ _ _ _ _ _ hr (hp k hk) ?_ (hd (k+1)))
    have hA : ∀ j,j<k+1→ax (ax (ar 0 (wR (gD X j) (gD X k).act (gD X k).item (gD X k).day)))=false:=fun j hj=>by
      rcases Nat.eq_or_lt_of_le (Nat.le_of_lt_succ hj) with h | h
      · rw [h,heq];rfl
      · rw [hlt j k h hk];rfl
    rcases Nat.eq_or_lt_of_le (Nat.succ_le_of_lt hk) with h | h
    · have e:X.take (k+1)=X:=xE (by omega)
      rw [e]
      exact T6 X _ _ _ _ (hz k hk) hl (vw X (hz k hk) hl) (Tu X _ _ _ _ _ (fun d=>DO d _ _ _ _ _ JU) hl fun j hj=>hA j (by omega))
    · refine K4 X _ _ _ _ (k+1) h hl (vw X (hz k hk) hl) (KC X _ _ _ _ _ (k+1) (fun d=>DO d _ _ _ _ _ JU) h hl hA fun j h1 h2=>?_)
      rw [hgt j k (by omega) h2];rfl
  · have hf:=vY X lF
    have z:=TJ gs day p (gD X k).act (gD X k).item X _ hr hfl hl (by omega)
    have e1:X.any (HV (gD X k).act (gD X k).item)=true:=List.any_eq_true.2 ⟨_,hmem k hk,by unfold HV;rw [aP,aP];rfl⟩
    have hmi : ∀ j,j<X.length→v8 (bG lF (X.take j)) (gD X j)=bif ab (iw (bG lF (X.take j)) (gD X j)).2 0 then [] else [⟨(gD X j).act,(gD X j).item,(iw (bG lF (X.take j)) (gD X j)).2⟩]:=fun j hj=>by
      unfold v8;rw [ham _ (hmem j hj)];rfl
    have e2:(dP lF X).any (G0 (gD X k).act (gD X k).item)=ax (ab (iw (bG lF (X.take k)) (gD X k)).2 0):=by
      cases q:ab (iw (bG lF (X.take k)) (gD X k)).2 0 with
      | false=>
        refine List.any_eq_true.2 ⟨⟨(gD X k).act,(gD X k).item,(iw (bG lF (X.take k)) (gD X k)).2⟩,(zl X lF _).2 ⟨k,hk,?_⟩,by unfold G0;simp only [aP];rfl⟩
        rw [hmi k hk,q];exact nI.2 rfl
      | true=>
        refine List.any_eq_false.2 fun e he h=>?_
        obtain ⟨j,hj,hm⟩:=(zl X lF e).1 he
        rw [hmi j hj] at hm
        unfold G0 at h
        obtain ⟨g1,g2⟩:=nF.1 h
        have g1:=iq g1
        have g2:=iq g2
        cases q2:ab (iw (bG lF (X.take j)) (gD X j)).2 0 with
        | true=>rw [q2] at hm;cases hm
        | false=>
          rw [q2] at hm
          rw [nI.1 hm] at g1 g2
          have hjk:j≠k:=fun e=>by rw [e,q] at q2;cases q2
          obtain ⟨a,a1,a2,a3⟩:=hac _ (hmem j hj)
          obtain ⟨b,b1,b2,b3⟩:=hac _ (hmem k hk)
          have hab:=Cr a1 b1 (by rw [a2,b2];exact g1)
          rw [hab] at a3
          simp only at g1 g2
          rcases Nat.lt_or_gt_of_ne hjk with h | h
          · have:=JV hup h hk;unfold Ry at this;omega
          · have:=JV hup h hj;unfold Ry at this;omega
    rw [e1,e2] at z
    cases q:ab (iw (bG lF (X.take k)) (gD X k)).2 0 with
    | true=>rw [q] at z;exact z
    | false=>rw [q] at z;exact z
  · have z:=Q4 (bG lF (X.take k)) (gD X k) (hB k) (hi _ (hmem k hk)) (ham _ (hmem k hk))
    rw [← hst k hk] at z;exact z
  · subst e;exact OU _ (hB k)
  · simp only [List.take_length];exact hbk
/-- The law of steps, whole. -/
theorem Lj (day:Int) (p:aO) (gs:List PGaz) (hf:pa gs) (haw:kP 9 [] (.bool true)):kP 8 [iV day, .str p, .ls (gs.map ao)] (.bool true):=by
  have hw:=Ta gs p hf
  cases hb:Mk gs p with
  | false=>rw [hb] at hw;exact UH day p gs haw hw
  | true=>
    rw [hb] at hw
    exact UI day p gs _ _ _ haw hw (WB (VW hf hb).1 day p)
end Go.Proofs.YtempcdhknnjebaaGreatDoor
