/- Functions walked: what each of them answers, for the law of prefixes: part 8. Conditions: those that each theorem names. -/
import Derived.Test.YtempcdhknnjebaaGreatDoorH7
namespace Go.Proofs.YtempcdhknnjebaaGreatDoor
open Go Go.Ev
/-- The gazette without acts that the law adds, as it is and as it is written. -/
def XG:PGaz:=⟨99,1048576, [], []⟩
noncomputable abbrev Tf:AV:= .agg [iV 99,iV 1048576, .str [], .nils]
/-- The law, by what it calls: the part's book, the whole's, the longer list's. -/
theorem Uq (day:Int) (p:aO) (gs:List PGaz) (k:Int) (haw:kP 9 [] (.bool true)) (hw:kP 10 [.ls (gs.map aq), .str p] (.bool false)):kP 5 [iV day, .str p, .ls (gs.map aq),iV k] (.bool true):=by
  exact bp Tryz.func5<|Kp 0 haw<|Kp 3 hw<|Kf 6<|bv<|eJ true
theorem Ri (day:Int) (p:aO) (gs:List PGaz) (k:Int) (haw:kP 9 [] (.bool true)) (hw:kP 10 [.ls (gs.map aq), .str p] (.bool true)) (g1:ar k 0=true):kP 5 [iV day, .str p, .ls (gs.map aq),iV k] (.bool true):=by
  exact bp Tryz.func5<|Kp 0 haw<|Kp 3 hw<|Kt 5 g1<|Mt g1<|Mt g1<|Mt g1<|MV g1<|Kf 1<|bv<|eJ true
theorem Rm (day:Int) (p:aO) (gs:List PGaz) (k:Int) (haw:kP 9 [] (.bool true)) (hw:kP 10 [.ls (gs.map aq), .str p] (.bool true)) (g1:ar k 0=false) (g2:ar (.ofNat gs.length) k=true):kP 5 [iV day, .str p, .ls (gs.map aq),iV k] (.bool true):=by
  exact bp Tryz.func5<|Kp 0 haw<|Kp 3 hw<|Kh 5 g1<|Kh 0 g1<|Kh 0 g1<|Kl 0 26 (ln aq gs)<|Mh g1<|Kw 0 g1<|Mt g2<|Kf 0<|bv<|eJ true
theorem pE (day:Int) (p:aO) (gs:List PGaz) (n:Nat) (u v:TUnit) (hn:n<gs.length) (hn0:0<n) (h8:gs.length≤8) (haw:kP 9 [] (.bool true)) (hw:kP 10 [.ls (gs.map aq), .str p] (.bool true))
    (g1:ar (Int.ofNat n) 0=false) (g2:ar (.ofNat gs.length) (.ofNat n)=false) (g3:ar (.ofNat n) (.ofNat gs.length)=true)
    (b1:kP 12 [iV day, .str p, .ls ((gs.take n).map aq)] (eU u))
    (b2:kP 12 [iV day, .str p, .ls (gs.map aq)] (eU v))
    (b3:kP 12 [iV day, .str p, .ls (gs.map aq++ [Tf])] (eU v))
    (s1:kP 11 [eU u,eU u] (.bool true)) (s2:kP 11 [eU v,eU v] (.bool true)) :
    kP 5 [iV day, .str p, .ls (gs.map aq),nV n] (.bool true):=by
  have q3:((gs.take n).map aq).length=n:=by rw [lM,AC];omega
  have q4:(gs.map aq).length=gs.length:=bH ..
  have q1:(gs.take n).map aq≠ []:=fun e=>by rw [e] at q3;simp at q3;omega
  have q2:gs.map aq≠ []:=fun e=>by rw [e] at q4;simp at q4;omega
  have q5:aY (gs.map aq++ [Tf])=0:=fx.2 fun x hx=>by
    rcases iE.1 hx with h | h
    · exact fx.1 (aX kc gs) x h
    · rw [mQ.1 h];rfl
  exact bp Tryz.func5<|Kp 0 haw<|Kp 3 hw<|Kl 8 26 (ln aq gs)<|Kh 1 g2<|K1 2 (.slp<|(gs.take n).map aq) (cW (hM 4 aq gs fun _=>rfl) (et (oA:0≤n) (oA:n≤(gs.map aq).length))<|A9 (f:=aq) (l:=gs) (h:=n))<|M2 .apl (et (by assumption:List.map aq (gs.take n)≠ [])<|fM 4 aq (gs.take n) fun _=>rfl) (by exact ap (m:=16) (by omega) (by decide) (by decide):small ((gs.take n).map aq).length 56=true)<|Mg 3<|M2 (.fsl 0 [0,1,2,3,34,35] 36<|(gs.take n).map aq) ti (cW (aU 0) (tA aq (List.take n gs) ((gs.take n).map aq).length (by (simp;done):(gs.take n).length=((gs.take n).map aq).length))<|aX kc<|gs.take n)<|Ml 36 (eH ((gs.take n).map aq) false<|aX kc<|gs.take n)<|Mp b1<|Kp 4 b2<|Mg 3<|M2 .apl (et (by assumption:List.map aq gs≠ [])<|fM 4 aq gs fun _=>rfl) (by exact ap (m:=16) (by omega) (by decide) (by decide):small (gs.map aq).length 56=true)<|K1 1 .app (cW (aU 0) (oA:(gs.map aq).length=(gs.map aq).length) (by exact ap (m:=16) (by omega) (by decide) (by decide):small ((gs.map aq).length+1) 56=true))<|Mg 0<|M2 (.fsl 2 [0,1,2,3,10,11] 12<|gs.map aq++ [av [iV 99,iV 1048576,ak [],ab]]) (cW rt rt ti) (cW (aU 1) (EX (by (simp;done):(gs.map aq++ [AV.agg [iV 99,iV 1048576,AV.str [],AV.nils]]).length=(gs.map aq).length+1)) (by assumption:aY (gs.map aq++ [AV.agg [iV 99,iV 1048576,AV.str [],AV.nils]])=0))<|Ml 12 (eH (gs.map aq++ [av [iV 99,iV 1048576,ak [],ab]]) false (by assumption:aY (gs.map aq++ [AV.agg [iV 99,iV 1048576,AV.str [],AV.nils]])=0))<|K1 3 (.slp<|(gs.take n).map aq) (cW (hM 4 aq gs fun _=>rfl) (et (oA:0≤n) (oA:n≤(gs.map aq).length))<|A9 (f:=aq) (l:=gs) (h:=n))<|Mp b1<|Kp 0 s1<|Kp 3 b3<|Kp 0 s2<|Kt 6 (by simp only [lM];exact g3:(ar (Int.ofNat n) (Int.ofNat (gs.map aq).length))=true)<|Mt (by simp only [lM];exact g3:(ar (Int.ofNat n) (Int.ofNat (gs.map aq).length))=true)<|Mt (by simp only [lM];exact g3:(ar (Int.ofNat n) (Int.ofNat (gs.map aq).length))=true)<|MV (by simp only [lM];exact g3:(ar (Int.ofNat n) (Int.ofNat (gs.map aq).length))=true)<|Kf 1<|bv<|eJ true
theorem NR (day:Int) (p:aO) (gs:List PGaz) (v:TUnit) (hn0:0<gs.length) (h8:gs.length≤8) (haw:kP 9 [] (.bool true)) (hw:kP 10 [.ls (gs.map aq), .str p] (.bool true))
    (g1:ar (Int.ofNat gs.length) 0=false) (g2:ar (.ofNat gs.length) (.ofNat gs.length)=false)
    (b1:kP 12 [iV day, .str p, .ls ((gs.take gs.length).map aq)] (eU v))
    (b2:kP 12 [iV day, .str p, .ls (gs.map aq)] (eU v))
    (b3:kP 12 [iV day, .str p, .ls (gs.map aq++ [Tf])] (eU v))
    (s2:kP 11 [eU v,eU v] (.bool true)) :
    kP 5 [iV day, .str p, .ls (gs.map aq),nV gs.length] (.bool true):=by
  have q3:((gs.take gs.length).map aq).length=gs.length:=by rw [lM,AC];omega
  have q4:(gs.map aq).length=gs.length:=bH ..
  have q1:(gs.take gs.length).map aq≠ []:=fun e=>by rw [e] at q3;simp at q3;omega
  have q2:gs.map aq≠ []:=fun e=>by rw [e] at q4;simp at q4;omega
  have q5:aY (gs.map aq++ [Tf])=0:=fx.2 fun x hx=>by
    rcases iE.1 hx with h | h
    · exact fx.1 (aX kc gs) x h
    · rw [mQ.1 h];rfl
  exact bp Tryz.func5<|Kp 0 haw<|Kp 3 hw<|Kl 8 26 (ln aq gs)<|Kh 1 g2<|K1 2 (.slp<|(gs.take gs.length).map aq) (cW (hM 4 aq gs fun _=>rfl) (et (oA:0≤gs.length) (oA:gs.length≤(gs.map aq).length))<|A9 (f:=aq) (l:=gs) (h:=gs.length))<|M2 .apl (et (by assumption:List.map aq (gs.take gs.length)≠ [])<|fM 4 aq (gs.take gs.length) fun _=>rfl) (by exact ap (m:=16) (by omega) (by decide) (by decide):small ((gs.take gs.length).map aq).length 56=true)<|Mg 3<|M2 (.fsl 0 [0,1,2,3,34,35] 36<|(gs.take gs.length).map aq) ti (cW (aU 0) (tA aq (List.take gs.length gs) ((gs.take gs.length).map aq).length (by (simp;done):(gs.take gs.length).length=((gs.take gs.length).map aq).length))<|aX kc<|gs.take gs.length)<|Ml 36 (eH ((gs.take gs.length).map aq) false<|aX kc<|gs.take gs.length)<|Mp b1<|Kp 4 b2<|Mg 3<|M2 .apl (et (by assumption:List.map aq gs≠ [])<|fM 4 aq gs fun _=>rfl) (by exact ap (m:=16) (by omega) (by decide) (by decide):small (gs.map aq).length 56=true)<|K1 1 .app (cW (aU 0) (oA:(gs.map aq).length=(gs.map aq).length) (by exact ap (m:=16) (by omega) (by decide) (by decide):small ((gs.map aq).length+1) 56=true))<|Mg 0<|M2 (.fsl 2 [0,1,2,3,10,11] 12<|gs.map aq++ [av [iV 99,iV 1048576,ak [],ab]]) (cW rt rt ti) (cW (aU 1) (EX (by (simp;done):(gs.map aq++ [AV.agg [iV 99,iV 1048576,AV.str [],AV.nils]]).length=(gs.map aq).length+1)) (by assumption:aY (gs.map aq++ [AV.agg [iV 99,iV 1048576,AV.str [],AV.nils]])=0))<|Ml 12 (eH (gs.map aq++ [av [iV 99,iV 1048576,ak [],ab]]) false (by assumption:aY (gs.map aq++ [AV.agg [iV 99,iV 1048576,AV.str [],AV.nils]])=0))<|K1 3 (.slp<|(gs.take gs.length).map aq) (cW (hM 4 aq gs fun _=>rfl) (et (oA:0≤gs.length) (oA:gs.length≤(gs.map aq).length))<|A9 (f:=aq) (l:=gs) (h:=gs.length))<|Mp b1<|Kp 0 s2<|Kp 3 b3<|Kp 0 s2<|Kh 6 (by simp only [lM];exact g2:(ar (Int.ofNat gs.length) (Int.ofNat (gs.map aq).length))=false)<|Kh 0 (by simp only [lM];exact g2:(ar (Int.ofNat gs.length) (Int.ofNat (gs.map aq).length))=false)<|Kh 0 (by simp only [lM];exact g2:(ar (Int.ofNat gs.length) (Int.ofNat (gs.map aq).length))=false)<|Mp s2<|My (by simp only [lM];exact g2:(ar (Int.ofNat gs.length) (Int.ofNat (gs.map aq).length))=false)<|Kf 1<|bv<|eJ true
theorem VT (day:Int) (p:aO) (gs:List PGaz) (u v:TUnit) (hn:0<gs.length) (h8:gs.length≤8) (haw:kP 9 [] (.bool true)) (hw:kP 10 [.ls (gs.map aq), .str p] (.bool true))
    (g2:ar (.ofNat gs.length) 0=false) (g3:ar 0 (.ofNat gs.length)=true)
    (b0:kP 12 [iV day, .str p, .ls ([]:List AV)] (eU u))
    (b2:kP 12 [iV day, .str p, .ls (gs.map aq)] (eU v))
    (b3:kP 12 [iV day, .str p, .ls (gs.map aq++ [Tf])] (eU v))
    (s1:kP 11 [eU u,eU u] (.bool true)) (s2:kP 11 [eU v,eU v] (.bool true)) :
    kP 5 [iV day, .str p, .ls (gs.map aq),iV 0] (.bool true):=by
  have q4:(gs.map aq).length=gs.length:=bH ..
  have q2:gs.map aq≠ []:=fun e=>by rw [e] at q4;simp at q4;omega
  have q5:aY (gs.map aq++ [Tf])=0:=fx.2 fun x hx=>by
    rcases iE.1 hx with h | h
    · exact fx.1 (aX kc gs) x h
    · rw [mQ.1 h];rfl
  have b00:kP 12 [iV day, .str p, .ps [] true] (eU u):=b0.onArgs (.cons (Le.refl _) (.cons (Le.refl _) (.cons (Le.lsp rfl rfl) .nil)))
  exact bp Tryz.func5<|Kp 0 haw<|Kp 3 hw<|Kl 8 26 (ln aq gs)<|K1 5 (.slp<|(gs.take 0).map aq) (cW (hM 4 aq gs fun _=>rfl) (et (oA:0≤0) (oA:0≤(gs.map aq).length))<|A9 (f:=aq) (l:=gs) (h:=0))<|Kp 4 b00<|Kp 4 b2<|Mg 3<|M2 .apl (et (by assumption:List.map aq gs≠ [])<|fM 4 aq gs fun _=>rfl) (by exact ap (m:=16) (by omega) (by decide) (by decide):small (gs.map aq).length 56=true)<|K1 1 .app (cW (aU 0) (oA:(gs.map aq).length=(gs.map aq).length) (by exact ap (m:=16) (by omega) (by decide) (by decide):small ((gs.map aq).length+1) 56=true))<|Mg 0<|M2 (.fsl 2 [0,1,2,3,10,11] 12<|gs.map aq++ [av [iV 99,iV 1048576,ak [],ab]]) (cW rt rt ti) (cW (aU 1) (EX (by (simp;done):(gs.map aq++ [AV.agg [iV 99,iV 1048576,AV.str [],AV.nils]]).length=(gs.map aq).length+1)) (by assumption:aY (gs.map aq++ [AV.agg [iV 99,iV 1048576,AV.str [],AV.nils]])=0))<|Ml 12 (eH (gs.map aq++ [av [iV 99,iV 1048576,ak [],ab]]) false (by assumption:aY (gs.map aq++ [AV.agg [iV 99,iV 1048576,AV.str [],AV.nils]])=0))<|K1 3 (.slp<|(gs.take 0).map aq) (cW (hM 4 aq gs fun _=>rfl) (et (oA:0≤0) (oA:0≤(gs.map aq).length))<|A9 (f:=aq) (l:=gs) (h:=0))<|Mp b0<|Kp 0 s1<|Kp 3 b3<|Kp 0 s2<|Kt 6 (by simp only [lM];exact g3:(ar 0 (Int.ofNat (gs.map aq).length))=true)<|Mt (by simp only [lM];exact g3:(ar 0 (Int.ofNat (gs.map aq).length))=true)<|Mt (by simp only [lM];exact g3:(ar 0 (Int.ofNat (gs.map aq).length))=true)<|MV (by simp only [lM];exact g3:(ar 0 (Int.ofNat (gs.map aq).length))=true)<|Kf 1<|bv<|eJ true
theorem V0 (day:Int) (p:aO) (u:TUnit) (haw:kP 9 [] (.bool true)) (hw:kP 10 [.ls (([]:List PGaz).map aq), .str p] (.bool true))
    (b0:kP 12 [iV day, .str p, .ls ([]:List AV)] (eU u))
    (b3:kP 12 [iV day, .str p, .ls [Tf]] (eU u))
    (s1:kP 11 [eU u,eU u] (.bool true)) :
    kP 5 [iV day, .str p, .ls (([]:List PGaz).map aq),iV 0] (.bool true):=by
  have b00:kP 12 [iV day, .str p, .ps [] true] (eU u):=b0.onArgs (.cons (Le.refl _) (.cons (Le.refl _) (.cons (Le.lsp rfl rfl) .nil)))
  let q:= [av [iV 99,iV 1048576,ak [],ab]];exact bp Tryz.func5<|Kp 0 haw<|Kp 3 hw<|Kp 20 b00<|Kp 4 b0<|K1 8 (.frz 2 [0,1,2,3,10,11,12]) (cW rt rt ti)<|Kp 4 b0<|Kp 0 s1<|Kp 3 (aM.onArgs (lc<|lc<|.cons (eH q _<|by rfl) .nil) b3:kP 12 [iV day,ak p,kK q false] _)<|Kp 0 s1<|Kp 8 s1<|Kf 2<|bv<|eJ true
theorem E7 {α:Type} {f:α→AV} (hf : ∀ x,Dr (f x) (f x)) : ∀ (l:List α) {a b:AV},Dr a b→LesC (l.map f++ [a]) (l.map f++ [b])
  | [],_,_,h=> .cons h .nil
  | x::r,_,_,h=> .cons (hf x) (E7 hf r h)
theorem Qk (day:Int) (p:aO) (gs:List PGaz) (h:OkG gs) (h8:gs.length≤8):kP 12 [iV day, .str p, .ls (gs.map aq++ [Tf])] (eU (CJ day p gs)):=by
  have hb:=(h.more h8 (g:=XG) rfl).book day p
  rw [L6 day p gs (g:=XG) rfl,pw] at hb
  refine hb.args (.cons (Le.refl _) (.cons (Le.refl _) (.cons (QG (E7 (fun x=>Dr.refl _) gs (qP _ _ (by kernel_rfl)).2) ?_) .nil)))
  refine fx.2 fun x hx=>?_
  rcases iE.1 hx with h | h
  · exact fx.1 (aX kc gs) x h
  · rw [mQ.1 h];exact kc _
/-- The law of prefixes, whole. -/
theorem Cs (day:Int) (p:aO) (gs:List PGaz) (k:Int) (hf:pQ gs) (haw:kP 9 [] (.bool true)):kP 5 [iV day, .str p, .ls (gs.map aq),iV k] (.bool true):=by
  have hw:=SC gs p hf
  cases hb:LA gs p with
  | false=>rw [hb] at hw;exact Uq day p gs k haw hw
  | true=>
    rw [hb] at hw
    obtain ⟨ok,h8⟩:=Ua hf hb
    have sub : ∀ n,OkG (gs.take n):=fun n=>ok.sub (by rw [AC];omega) fun g hg=>rW hg
    cases g1:ar k 0 with
    | true=>exact Ri day p gs k haw hw g1
    | false=>
      cases g2:ar (.ofNat gs.length) k with
      | true=>exact Rm day p gs k haw hw g1 g2
      | false=>
        have e1:=aF g1
        have e2:=aF g2
        obtain ⟨n,rfl⟩:=Int.eq_ofNat_of_zero_le e1
        have hn:n≤gs.length:=by simp only [oN] at e2;omega
        have b3:=Qk day p gs ok h8
        have b2:=ok.book day p
        have s2:=x8 _ (ok.okB day p)
        have b0:=(sub 0).book day p
        have s0:=x8 _ ((sub 0).okB day p)
        rcases fX n gs.length with hl | hl
        · have g3:ar (Int.ofNat n) (.ofNat gs.length)=true:=mb (by simp only [oN];omega)
          cases n with
          | zero=>exact VT day p gs _ _ hl h8 haw hw g2 g3 b0 b2 b3 s0 s2
          | succ m=>exact pE day p gs (m+1) _ _ hl (vY m) h8 haw hw g1 g2 g3 ((sub _).book day p) b2 b3 (x8 _ ((sub _).okB day p)) s2
        · have:n=gs.length:=by omega
          subst this
          cases hg:gs with
          | nil=>subst hg;exact V0 day p _ haw hw b0 b3 s0
          | cons w r=>
            have hl0:0<gs.length:=by rw [hg];exact vY _
            rw [← hg]
            exact NR day p gs _ hl0 h8 haw hw g1 g2 (by rw [List.take_length];exact b2) b2 b3 s2
end Go.Proofs.YtempcdhknnjebaaGreatDoor
