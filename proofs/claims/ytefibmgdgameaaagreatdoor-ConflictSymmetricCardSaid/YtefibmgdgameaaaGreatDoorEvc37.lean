/- A closed run: the examples that the laws of chapter 25 check; a set's keys in their order by their contract. -/
import Derived.Test.YtefibmgdgameaaaGreatDoorH8
import Derived.Test.YtefibmgdgameaaaGreatDoorMach7
namespace Go.Proofs.YtefibmgdgameaaaGreatDoor
open Go Go.Ev
noncomputable def OA (m:List (PKey × Bool)):AV:=match m with
  | []=> .nils
  | _::_=> .ls ((gL (m.map (·.1))).map bP)
noncomputable def Fh (f:FuncId) (args:List AV) (h:AHeap):Option (AV × AHeap):=match Nat.beq f 198,args with
  | true, [.map id]=>match h.get id with
    | some (.map es c)=>match wG es 0 with
      | some m=>match Nat.beq c m.length && Nat.ble m.length 1000 with
        | true=>some (OA m,h)
        | false=>none
      | none=>none
    | _=>none
  | _,_=>none
theorem OU (m:List (PKey × Bool)) (hm:m.length≤1000):aB Tryz.prog G 198 [.map 0] (ae [.map (be bP AV.bool m 0) m.length]) (fun v h=>v=OA m∧h=ae [.map (be bP AV.bool m 0) m.length]):=by
  cases m with
  | nil=>exact OY
  | cons x r=>exact RT (x::r) (by omega) (Nat.zero_lt_succ _)
noncomputable def CK:Cfg:= { P:=Tryz.prog,G:=G,pol:=pol,rounds:=100000,hook:=Fh }
theorem PM:um CK:=by
  intro f args h v h' e0 pl M w vs hg hr hv
  have e:Fh f args h=some (v,h'):=e0
  clear e0
  unfold Fh at e
  split at e
  · rename_i id hf
    have hf:=j1 hf
    subst hf
    split at e
    · rename_i es c hget
      split at e
      · rename_i m hm
        split at e
        · rename_i hb
          rw [ba] at hb
          have h1:=j1 hb.1
          have h2:=ng hb.2
          have h3:=zk hm
          subst h3;subst h1
          simp only [vS,qj] at e
          obtain ⟨rfl,rfl⟩:=e
          have hc:=G9 eP (mf m 0) (by cases m <;> rfl) (OU m h2) hget
          rcases hc pl M w vs hg hr hv with ⟨q1,q2⟩ | ⟨cv,w',v1,h1,q1,⟨q2,q3⟩,q4⟩
          · exact .inl ⟨q1,Calls.mono q2 fun e w' ⟨cv,v1,h1,k1,⟨k2,k3⟩,k4⟩=>⟨cv,k1,by subst k2;subst k3;exact k4⟩⟩
          · exact .inr ⟨cv,w',q1,by subst q2;subst q3;exact q4⟩
        · cases e
      · cases e
    · cases e
  · cases e
noncomputable abbrev YD:FuncId × List AV × AV:=(102, [.ps [.agg [.int .i64 2, .str [53]]] true], .str [115,101,99,116,105,111,110,32,53])
noncomputable def Iz (f:FuncId) (args:List AV) (h:AHeap):Option (AV × AHeap):=match Fh f args h with
  | some r=>some r
  | none=>sl [YD] f args h
noncomputable def CF:Cfg:= { P:=Tryz.prog,G:=G,pol:=pol,rounds:=100000,hook:=sl [YD] }
noncomputable def YW:Cfg:= { P:=Tryz.prog,G:=G,pol:=pol,rounds:=100000,hook:=Iz }
theorem PN:um CF:=PL rfl fun x hx=>by rw [oI.1 hx];exact P8
theorem L9:um YW:=by
  intro f args h v h' e0
  have e:Iz f args h=some (v,h'):=e0
  unfold Iz at e
  cases hk:Fh f args h with
  | some r=>
    rw [hk] at e
    have e:=JY e
    subst e
    exact PM f args h v h' hk
  | none=>
    rw [hk] at e
    exact PN f args h v h' e
theorem Ya (k:Nat):cw Tryz.prog G (gE YW k):=Ug (C:=YW) WL io L9 k
theorem TN:bw Tryz.prog G 7 [] (.bool true):=bw.closed (C:=YW) (k:=60) eP (Ya 60) rfl (by kernel_rfl)
end Go.Proofs.YtefibmgdgameaaaGreatDoor
