import Derived.Test.YtjnecjhkmhhnnaaGreatDoorH26
import Derived.Test.YtjnecjhkmhhnnaaGreatDoorH37
import Derived.Test.YtjnecjhkmhhnnaaGreatDoorMach8
import Derived.Test.YtjnecjhkmhhnnaaGreatDoorLay2
namespace Go.Proofs.YtjnecjhkmhhnnaaGreatDoor
open Go Go.Ev
theorem joinX : Go.Proofs.Builder.Extra Tryz.prog Tryz.ljoin_ren := by
  repeat' (first | kernel_rfl | (intro w; kernel_rfl) | decide | constructor)
theorem join_ok (l : List Str) (sep : Str) (h1 : l.length ≤ 140737488355328) (h2 : (Lib.join l sep).length ≤ 140737488355328) : HPure Tryz.prog G 77 [.ls (l.map Ev.encStr), .str sep] (.str (Lib.join l sep)) :=
  join_call (Go.Proofs.enters_of Tryz.func77 (by kernel_rfl) rfl) (fun bk o c xs sep w a b d e g => Go.Proofs.Any.strings_Join Go.Proofs.Tryz.ljoin joinX bk o c xs sep w a b d e g) (fun a c sep w => Go.Proofs.Any.strings_Join_none Go.Proofs.Tryz.ljoin joinX a c sep w) l sep h1 h2
theorem anm0_ok : HPure Tryz.prog G 75 [.int .i64 0] (.tuple [.str [98, 111, 111, 107], .bool true]) := by
  exact HPure.walk mixed gtop (ev 40) (by kernel_rfl) (by kernel_rfl) (fn := Tryz.f75) Tryz.func75 (by kernel_rfl) rfl ⟨by kernel_rfl, by kernel_rfl⟩ (.go 16 .fin) ((Le.refl _) : Le _ (AV.tuple [AV.str [98, 111, 111, 107], AV.bool true])) (by kernel_rfl)
theorem anm1_ok : HPure Tryz.prog G 75 [.int .i64 1] (.tuple [.str [112, 97, 114, 116], .bool true]) := by
  exact HPure.walk mixed gtop (ev 40) (by kernel_rfl) (by kernel_rfl) (fn := Tryz.f75) Tryz.func75 (by kernel_rfl) rfl ⟨by kernel_rfl, by kernel_rfl⟩ (.go 16 .fin) ((Le.refl _) : Le _ (AV.tuple [AV.str [112, 97, 114, 116], AV.bool true])) (by kernel_rfl)
theorem anm2_ok : HPure Tryz.prog G 75 [.int .i64 2] (.tuple [.str [115, 101, 99, 116, 105, 111, 110], .bool true]) := by
  exact HPure.walk mixed gtop (ev 40) (by kernel_rfl) (by kernel_rfl) (fn := Tryz.f75) Tryz.func75 (by kernel_rfl) rfl ⟨by kernel_rfl, by kernel_rfl⟩ (.go 16 .fin) ((Le.refl _) : Le _ (AV.tuple [AV.str [115, 101, 99, 116, 105, 111, 110], AV.bool true])) (by kernel_rfl)
theorem anm3_ok : HPure Tryz.prog G 75 [.int .i64 3] (.tuple [.str [112, 97, 114, 97, 103, 114, 97, 112, 104], .bool true]) := by
  exact HPure.walk mixed gtop (ev 40) (by kernel_rfl) (by kernel_rfl) (fn := Tryz.f75) Tryz.func75 (by kernel_rfl) rfl ⟨by kernel_rfl, by kernel_rfl⟩ (.go 16 .fin) ((Le.refl _) : Le _ (AV.tuple [AV.str [112, 97, 114, 97, 103, 114, 97, 112, 104], AV.bool true])) (by kernel_rfl)
theorem anm4_ok : HPure Tryz.prog G 75 [.int .i64 4] (.tuple [.str [116, 97, 98, 108, 101], .bool true]) := by
  exact HPure.walk mixed gtop (ev 40) (by kernel_rfl) (by kernel_rfl) (fn := Tryz.f75) Tryz.func75 (by kernel_rfl) rfl ⟨by kernel_rfl, by kernel_rfl⟩ (.go 16 .fin) ((Le.refl _) : Le _ (AV.tuple [AV.str [116, 97, 98, 108, 101], AV.bool true])) (by kernel_rfl)
theorem anm5_ok : HPure Tryz.prog G 75 [.int .i64 5] (.tuple [.str [114, 111, 119], .bool true]) := by
  exact HPure.walk mixed gtop (ev 40) (by kernel_rfl) (by kernel_rfl) (fn := Tryz.f75) Tryz.func75 (by kernel_rfl) rfl ⟨by kernel_rfl, by kernel_rfl⟩ (.go 16 .fin) ((Le.refl _) : Le _ (AV.tuple [AV.str [114, 111, 119], AV.bool true])) (by kernel_rfl)
theorem anm6_ok : HPure Tryz.prog G 75 [.int .i64 6] (.tuple [.str [99, 101, 108, 108], .bool true]) := by
  exact HPure.walk mixed gtop (ev 40) (by kernel_rfl) (by kernel_rfl) (fn := Tryz.f75) Tryz.func75 (by kernel_rfl) rfl ⟨by kernel_rfl, by kernel_rfl⟩ (.go 16 .fin) ((Le.refl _) : Le _ (AV.tuple [AV.str [99, 101, 108, 108], AV.bool true])) (by kernel_rfl)
theorem anm7_ok : HPure Tryz.prog G 75 [.int .i64 7] (.tuple [.str [110, 111, 116, 101], .bool true]) := by
  exact HPure.walk mixed gtop (ev 40) (by kernel_rfl) (by kernel_rfl) (fn := Tryz.f75) Tryz.func75 (by kernel_rfl) rfl ⟨by kernel_rfl, by kernel_rfl⟩ (.go 16 .fin) ((Le.refl _) : Le _ (AV.tuple [AV.str [110, 111, 116, 101], AV.bool true])) (by kernel_rfl)
theorem addr1_ok (s : PStep) (hs : s.label.length ≤ 2 ^ 39) : HPure Tryz.prog G 74 [.ps [encStep s] true] (.bool (addrB [s])) :=
  (addrV_ok [s] (by simp) (fun x hx => by rw [List.mem_singleton.1 hx]; exact hs)).onArgs (.cons (Le.ps _ _ rfl) .nil)
theorem formatB_ok (s : PStep) (hs : s.label.length ≤ 2 ^ 39) (hb : addrB [s] = false) : HPure Tryz.prog G 28 [.ps [encStep s] true] (.str []) := by
  have h := addr1_ok s hs
  rw [hb] at h
  exact HPure.walk mixed gtop (ev 40) (by kernel_rfl) (by kernel_rfl) (fn := Tryz.f28) Tryz.func28 (by kernel_rfl) rfl ⟨by kernel_rfl, by kernel_rfl⟩ (.go 1 (.pure (AV.bool false) (.go 2 .fin))) (et (h) ((Le.refl _) : Le _ (AV.str []))) (by kernel_rfl)
theorem join2_ok (a b : Str) (ha : a.length ≤ 100) (hb : b.length ≤ 2 ^ 39) : HPure Tryz.prog G 77 [.ps [.str a, .str b] false, .str [32]] (.str (a ++ [32] ++ b)) := by
  have e : Lib.join [a, b] [32] = a ++ [32] ++ b := by simp [Lib.join, List.intercalate, List.intersperse]
  have h := join_ok [a, b] [32] (by simp) (by rw [e]; simp only [List.length_append, List.length_cons, List.length_nil]; omega)
  rw [e] at h
  exact h.onArgs (.cons (Le.ps _ _ rfl) (.cons (Le.refl _) .nil))
theorem join1_ok (a : Str) (ha : a.length ≤ 100) : HPure Tryz.prog G 77 [.ps [.str a] false, .str [32]] (.str a) := by
  have e : Lib.join [a] [32] = a := Lib.join_one a [32]
  have h := join_ok [a] [32] (by simp) (by rw [e]; omega)
  rw [e] at h
  exact h.onArgs (.cons (Le.ps _ _ rfl) (.cons (Le.refl _) .nil))
theorem text1_lab (c : Int) (l : Str) (hb : addrB [⟨c, l⟩] = true) (hc : eqI c 0 = false) : text1 ⟨c, l⟩ = kindNm c ++ [32] ++ l := by
  simp only [text1, hb, abookB, hc, Bool.false_and, cond_true, cond_false]
def format1_e0_0I (l : Str) (x0 : Unit) : Prop := True
noncomputable def format1_e0_0S (l : Str) (x0 : Unit) : List AV × List AObj := ([AV.nils, AV.ps [AV.agg [AV.int IntKind.i64 1, AV.str l]] true, AV.int IntKind.i64 1, AV.int IntKind.i64 0], [])
def format1_e0_1I (l : Str) (x0 : Unit) : Prop := True
noncomputable def format1_e0_1S (l : Str) (x0 : Unit) : List AV × List AObj := ([AV.slice 0 1 0 2 none, AV.ps [AV.agg [AV.int IntKind.i64 1, AV.str l]] true, AV.int IntKind.i64 1, AV.int IntKind.i64 1], [AObj.row 1 true 1 [AV.str [112, 97, 114, 116], AV.str l]])
theorem format1_ok (l : Str) (hs : l.length ≤ 2 ^ 39) (hb : addrB [⟨1, l⟩] = true) : HPure Tryz.prog G 28 [.ps [.agg [.int .i64 1, .str l]] true] (.str (text1 ⟨1, l⟩)) := by
  have h := addr1_ok ⟨1, l⟩ hs
  have hk := abook_ok ⟨1, l⟩
  have hj := join2_ok [112, 97, 114, 116] l (by decide) hs
  rw [hb] at h
  rw [text1_lab 1 l hb rfl, show kindNm 1 ++ [32] ++ l = [112, 97, 114, 116] ++ [32] ++ l from rfl]
  generalize [112, 97, 114, 116] ++ [32] ++ l = T at *
  exact HPure.walk mixed gtop (ev 40) (by kernel_rfl) (by kernel_rfl) (fn := Tryz.f28) Tryz.func28 (by kernel_rfl) rfl ⟨by kernel_rfl, by kernel_rfl⟩ (.go 1 (.pure (AV.bool true) (.go 5 (.loop2 (Unit) (Unit) [3, 11, 12, 13] (format1_e0_0S l) (format1_e0_1S l) (format1_e0_0I l) (format1_e0_1I l) (fun x => 1) (fun x => 0) (.inl (())) (fun x0 => (.go 7 (.pure (AV.tuple [AV.str [112, 97, 114, 116], AV.bool true]) (.go 10 (.pure (AV.bool false) (.go 9 (.ren [1, 0] [] [3, 11, 12, 13] (.frz 1 [3, 11, 12, 13] .fin)))))))) (fun x0 => (.go 2 (.frz 0 [36] (.pure (AV.str T) (.go 0 .fin))))))))) (et (h) (et (Eq.refl ((format1_e0_0S l) (()))) (et (by trivial : True) (et (fun (x0 : Unit) (hx0 : (format1_e0_0I l) x0) => have hx0 : True := hx0; (et (anm1_ok) (et (hk) (et (et (Eq.refl true) True.intro) (Nx.mk (I := (Sum.elim (format1_e0_0I l) (format1_e0_1I l))) (m := (Sum.elim (fun x => 1) (fun x => 0))) (S := (Sum.elim (format1_e0_0S l) (format1_e0_1S l))) (x := (.inl x0)) (.inr (())) (by trivial : True) (by first | omega | decide : (0 : Nat) < (1 : Nat))))))) (fun (x0 : Unit) (hx0 : (format1_e0_1I l) x0) => have hx0 : True := hx0; (et True.intro (et (hj) ((Le.refl _) : Le _ (AV.str T))))))))) (by kernel_rfl)
def format2_e0_0I (l : Str) (x0 : Unit) : Prop := True
noncomputable def format2_e0_0S (l : Str) (x0 : Unit) : List AV × List AObj := ([AV.nils, AV.ps [AV.agg [AV.int IntKind.i64 2, AV.str l]] true, AV.int IntKind.i64 1, AV.int IntKind.i64 0], [])
def format2_e0_1I (l : Str) (x0 : Unit) : Prop := True
noncomputable def format2_e0_1S (l : Str) (x0 : Unit) : List AV × List AObj := ([AV.slice 0 1 0 2 none, AV.ps [AV.agg [AV.int IntKind.i64 2, AV.str l]] true, AV.int IntKind.i64 1, AV.int IntKind.i64 1], [AObj.row 1 true 1 [AV.str [115, 101, 99, 116, 105, 111, 110], AV.str l]])
theorem format2_ok (l : Str) (hs : l.length ≤ 2 ^ 39) (hb : addrB [⟨2, l⟩] = true) : HPure Tryz.prog G 28 [.ps [.agg [.int .i64 2, .str l]] true] (.str (text1 ⟨2, l⟩)) := by
  have h := addr1_ok ⟨2, l⟩ hs
  have hk := abook_ok ⟨2, l⟩
  have hj := join2_ok [115, 101, 99, 116, 105, 111, 110] l (by decide) hs
  rw [hb] at h
  rw [text1_lab 2 l hb rfl, show kindNm 2 ++ [32] ++ l = [115, 101, 99, 116, 105, 111, 110] ++ [32] ++ l from rfl]
  generalize [115, 101, 99, 116, 105, 111, 110] ++ [32] ++ l = T at *
  exact HPure.walk mixed gtop (ev 40) (by kernel_rfl) (by kernel_rfl) (fn := Tryz.f28) Tryz.func28 (by kernel_rfl) rfl ⟨by kernel_rfl, by kernel_rfl⟩ (.go 1 (.pure (AV.bool true) (.go 5 (.loop2 (Unit) (Unit) [3, 11, 12, 13] (format2_e0_0S l) (format2_e0_1S l) (format2_e0_0I l) (format2_e0_1I l) (fun x => 1) (fun x => 0) (.inl (())) (fun x0 => (.go 7 (.pure (AV.tuple [AV.str [115, 101, 99, 116, 105, 111, 110], AV.bool true]) (.go 10 (.pure (AV.bool false) (.go 9 (.ren [1, 0] [] [3, 11, 12, 13] (.frz 1 [3, 11, 12, 13] .fin)))))))) (fun x0 => (.go 2 (.frz 0 [36] (.pure (AV.str T) (.go 0 .fin))))))))) (et (h) (et (Eq.refl ((format2_e0_0S l) (()))) (et (by trivial : True) (et (fun (x0 : Unit) (hx0 : (format2_e0_0I l) x0) => have hx0 : True := hx0; (et (anm2_ok) (et (hk) (et (et (Eq.refl true) True.intro) (Nx.mk (I := (Sum.elim (format2_e0_0I l) (format2_e0_1I l))) (m := (Sum.elim (fun x => 1) (fun x => 0))) (S := (Sum.elim (format2_e0_0S l) (format2_e0_1S l))) (x := (.inl x0)) (.inr (())) (by trivial : True) (by first | omega | decide : (0 : Nat) < (1 : Nat))))))) (fun (x0 : Unit) (hx0 : (format2_e0_1I l) x0) => have hx0 : True := hx0; (et True.intro (et (hj) ((Le.refl _) : Le _ (AV.str T))))))))) (by kernel_rfl)
def format3_e0_0I (l : Str) (x0 : Unit) : Prop := True
noncomputable def format3_e0_0S (l : Str) (x0 : Unit) : List AV × List AObj := ([AV.nils, AV.ps [AV.agg [AV.int IntKind.i64 3, AV.str l]] true, AV.int IntKind.i64 1, AV.int IntKind.i64 0], [])
def format3_e0_1I (l : Str) (x0 : Unit) : Prop := True
noncomputable def format3_e0_1S (l : Str) (x0 : Unit) : List AV × List AObj := ([AV.slice 0 1 0 2 none, AV.ps [AV.agg [AV.int IntKind.i64 3, AV.str l]] true, AV.int IntKind.i64 1, AV.int IntKind.i64 1], [AObj.row 1 true 1 [AV.str [112, 97, 114, 97, 103, 114, 97, 112, 104], AV.str l]])
theorem format3_ok (l : Str) (hs : l.length ≤ 2 ^ 39) (hb : addrB [⟨3, l⟩] = true) : HPure Tryz.prog G 28 [.ps [.agg [.int .i64 3, .str l]] true] (.str (text1 ⟨3, l⟩)) := by
  have h := addr1_ok ⟨3, l⟩ hs
  have hk := abook_ok ⟨3, l⟩
  have hj := join2_ok [112, 97, 114, 97, 103, 114, 97, 112, 104] l (by decide) hs
  rw [hb] at h
  rw [text1_lab 3 l hb rfl, show kindNm 3 ++ [32] ++ l = [112, 97, 114, 97, 103, 114, 97, 112, 104] ++ [32] ++ l from rfl]
  generalize [112, 97, 114, 97, 103, 114, 97, 112, 104] ++ [32] ++ l = T at *
  exact HPure.walk mixed gtop (ev 40) (by kernel_rfl) (by kernel_rfl) (fn := Tryz.f28) Tryz.func28 (by kernel_rfl) rfl ⟨by kernel_rfl, by kernel_rfl⟩ (.go 1 (.pure (AV.bool true) (.go 5 (.loop2 (Unit) (Unit) [3, 11, 12, 13] (format3_e0_0S l) (format3_e0_1S l) (format3_e0_0I l) (format3_e0_1I l) (fun x => 1) (fun x => 0) (.inl (())) (fun x0 => (.go 7 (.pure (AV.tuple [AV.str [112, 97, 114, 97, 103, 114, 97, 112, 104], AV.bool true]) (.go 10 (.pure (AV.bool false) (.go 9 (.ren [1, 0] [] [3, 11, 12, 13] (.frz 1 [3, 11, 12, 13] .fin)))))))) (fun x0 => (.go 2 (.frz 0 [36] (.pure (AV.str T) (.go 0 .fin))))))))) (et (h) (et (Eq.refl ((format3_e0_0S l) (()))) (et (by trivial : True) (et (fun (x0 : Unit) (hx0 : (format3_e0_0I l) x0) => have hx0 : True := hx0; (et (anm3_ok) (et (hk) (et (et (Eq.refl true) True.intro) (Nx.mk (I := (Sum.elim (format3_e0_0I l) (format3_e0_1I l))) (m := (Sum.elim (fun x => 1) (fun x => 0))) (S := (Sum.elim (format3_e0_0S l) (format3_e0_1S l))) (x := (.inl x0)) (.inr (())) (by trivial : True) (by first | omega | decide : (0 : Nat) < (1 : Nat))))))) (fun (x0 : Unit) (hx0 : (format3_e0_1I l) x0) => have hx0 : True := hx0; (et True.intro (et (hj) ((Le.refl _) : Le _ (AV.str T))))))))) (by kernel_rfl)
def format4_e0_0I (l : Str) (x0 : Unit) : Prop := True
noncomputable def format4_e0_0S (l : Str) (x0 : Unit) : List AV × List AObj := ([AV.nils, AV.ps [AV.agg [AV.int IntKind.i64 4, AV.str l]] true, AV.int IntKind.i64 1, AV.int IntKind.i64 0], [])
def format4_e0_1I (l : Str) (x0 : Unit) : Prop := True
noncomputable def format4_e0_1S (l : Str) (x0 : Unit) : List AV × List AObj := ([AV.slice 0 1 0 2 none, AV.ps [AV.agg [AV.int IntKind.i64 4, AV.str l]] true, AV.int IntKind.i64 1, AV.int IntKind.i64 1], [AObj.row 1 true 1 [AV.str [116, 97, 98, 108, 101], AV.str l]])
theorem format4_ok (l : Str) (hs : l.length ≤ 2 ^ 39) (hb : addrB [⟨4, l⟩] = true) : HPure Tryz.prog G 28 [.ps [.agg [.int .i64 4, .str l]] true] (.str (text1 ⟨4, l⟩)) := by
  have h := addr1_ok ⟨4, l⟩ hs
  have hk := abook_ok ⟨4, l⟩
  have hj := join2_ok [116, 97, 98, 108, 101] l (by decide) hs
  rw [hb] at h
  rw [text1_lab 4 l hb rfl, show kindNm 4 ++ [32] ++ l = [116, 97, 98, 108, 101] ++ [32] ++ l from rfl]
  generalize [116, 97, 98, 108, 101] ++ [32] ++ l = T at *
  exact HPure.walk mixed gtop (ev 40) (by kernel_rfl) (by kernel_rfl) (fn := Tryz.f28) Tryz.func28 (by kernel_rfl) rfl ⟨by kernel_rfl, by kernel_rfl⟩ (.go 1 (.pure (AV.bool true) (.go 5 (.loop2 (Unit) (Unit) [3, 11, 12, 13] (format4_e0_0S l) (format4_e0_1S l) (format4_e0_0I l) (format4_e0_1I l) (fun x => 1) (fun x => 0) (.inl (())) (fun x0 => (.go 7 (.pure (AV.tuple [AV.str [116, 97, 98, 108, 101], AV.bool true]) (.go 10 (.pure (AV.bool false) (.go 9 (.ren [1, 0] [] [3, 11, 12, 13] (.frz 1 [3, 11, 12, 13] .fin)))))))) (fun x0 => (.go 2 (.frz 0 [36] (.pure (AV.str T) (.go 0 .fin))))))))) (et (h) (et (Eq.refl ((format4_e0_0S l) (()))) (et (by trivial : True) (et (fun (x0 : Unit) (hx0 : (format4_e0_0I l) x0) => have hx0 : True := hx0; (et (anm4_ok) (et (hk) (et (et (Eq.refl true) True.intro) (Nx.mk (I := (Sum.elim (format4_e0_0I l) (format4_e0_1I l))) (m := (Sum.elim (fun x => 1) (fun x => 0))) (S := (Sum.elim (format4_e0_0S l) (format4_e0_1S l))) (x := (.inl x0)) (.inr (())) (by trivial : True) (by first | omega | decide : (0 : Nat) < (1 : Nat))))))) (fun (x0 : Unit) (hx0 : (format4_e0_1I l) x0) => have hx0 : True := hx0; (et True.intro (et (hj) ((Le.refl _) : Le _ (AV.str T))))))))) (by kernel_rfl)
def format5_e0_0I (l : Str) (x0 : Unit) : Prop := True
noncomputable def format5_e0_0S (l : Str) (x0 : Unit) : List AV × List AObj := ([AV.nils, AV.ps [AV.agg [AV.int IntKind.i64 5, AV.str l]] true, AV.int IntKind.i64 1, AV.int IntKind.i64 0], [])
def format5_e0_1I (l : Str) (x0 : Unit) : Prop := True
noncomputable def format5_e0_1S (l : Str) (x0 : Unit) : List AV × List AObj := ([AV.slice 0 1 0 2 none, AV.ps [AV.agg [AV.int IntKind.i64 5, AV.str l]] true, AV.int IntKind.i64 1, AV.int IntKind.i64 1], [AObj.row 1 true 1 [AV.str [114, 111, 119], AV.str l]])
theorem format5_ok (l : Str) (hs : l.length ≤ 2 ^ 39) (hb : addrB [⟨5, l⟩] = true) : HPure Tryz.prog G 28 [.ps [.agg [.int .i64 5, .str l]] true] (.str (text1 ⟨5, l⟩)) := by
  have h := addr1_ok ⟨5, l⟩ hs
  have hk := abook_ok ⟨5, l⟩
  have hj := join2_ok [114, 111, 119] l (by decide) hs
  rw [hb] at h
  rw [text1_lab 5 l hb rfl, show kindNm 5 ++ [32] ++ l = [114, 111, 119] ++ [32] ++ l from rfl]
  generalize [114, 111, 119] ++ [32] ++ l = T at *
  exact HPure.walk mixed gtop (ev 40) (by kernel_rfl) (by kernel_rfl) (fn := Tryz.f28) Tryz.func28 (by kernel_rfl) rfl ⟨by kernel_rfl, by kernel_rfl⟩ (.go 1 (.pure (AV.bool true) (.go 5 (.loop2 (Unit) (Unit) [3, 11, 12, 13] (format5_e0_0S l) (format5_e0_1S l) (format5_e0_0I l) (format5_e0_1I l) (fun x => 1) (fun x => 0) (.inl (())) (fun x0 => (.go 7 (.pure (AV.tuple [AV.str [114, 111, 119], AV.bool true]) (.go 10 (.pure (AV.bool false) (.go 9 (.ren [1, 0] [] [3, 11, 12, 13] (.frz 1 [3, 11, 12, 13] .fin)))))))) (fun x0 => (.go 2 (.frz 0 [36] (.pure (AV.str T) (.go 0 .fin))))))))) (et (h) (et (Eq.refl ((format5_e0_0S l) (()))) (et (by trivial : True) (et (fun (x0 : Unit) (hx0 : (format5_e0_0I l) x0) => have hx0 : True := hx0; (et (anm5_ok) (et (hk) (et (et (Eq.refl true) True.intro) (Nx.mk (I := (Sum.elim (format5_e0_0I l) (format5_e0_1I l))) (m := (Sum.elim (fun x => 1) (fun x => 0))) (S := (Sum.elim (format5_e0_0S l) (format5_e0_1S l))) (x := (.inl x0)) (.inr (())) (by trivial : True) (by first | omega | decide : (0 : Nat) < (1 : Nat))))))) (fun (x0 : Unit) (hx0 : (format5_e0_1I l) x0) => have hx0 : True := hx0; (et True.intro (et (hj) ((Le.refl _) : Le _ (AV.str T))))))))) (by kernel_rfl)
def format6_e0_0I (l : Str) (x0 : Unit) : Prop := True
noncomputable def format6_e0_0S (l : Str) (x0 : Unit) : List AV × List AObj := ([AV.nils, AV.ps [AV.agg [AV.int IntKind.i64 6, AV.str l]] true, AV.int IntKind.i64 1, AV.int IntKind.i64 0], [])
def format6_e0_1I (l : Str) (x0 : Unit) : Prop := True
noncomputable def format6_e0_1S (l : Str) (x0 : Unit) : List AV × List AObj := ([AV.slice 0 1 0 2 none, AV.ps [AV.agg [AV.int IntKind.i64 6, AV.str l]] true, AV.int IntKind.i64 1, AV.int IntKind.i64 1], [AObj.row 1 true 1 [AV.str [99, 101, 108, 108], AV.str l]])
theorem format6_ok (l : Str) (hs : l.length ≤ 2 ^ 39) (hb : addrB [⟨6, l⟩] = true) : HPure Tryz.prog G 28 [.ps [.agg [.int .i64 6, .str l]] true] (.str (text1 ⟨6, l⟩)) := by
  have h := addr1_ok ⟨6, l⟩ hs
  have hk := abook_ok ⟨6, l⟩
  have hj := join2_ok [99, 101, 108, 108] l (by decide) hs
  rw [hb] at h
  rw [text1_lab 6 l hb rfl, show kindNm 6 ++ [32] ++ l = [99, 101, 108, 108] ++ [32] ++ l from rfl]
  generalize [99, 101, 108, 108] ++ [32] ++ l = T at *
  exact HPure.walk mixed gtop (ev 40) (by kernel_rfl) (by kernel_rfl) (fn := Tryz.f28) Tryz.func28 (by kernel_rfl) rfl ⟨by kernel_rfl, by kernel_rfl⟩ (.go 1 (.pure (AV.bool true) (.go 5 (.loop2 (Unit) (Unit) [3, 11, 12, 13] (format6_e0_0S l) (format6_e0_1S l) (format6_e0_0I l) (format6_e0_1I l) (fun x => 1) (fun x => 0) (.inl (())) (fun x0 => (.go 7 (.pure (AV.tuple [AV.str [99, 101, 108, 108], AV.bool true]) (.go 10 (.pure (AV.bool false) (.go 9 (.ren [1, 0] [] [3, 11, 12, 13] (.frz 1 [3, 11, 12, 13] .fin)))))))) (fun x0 => (.go 2 (.frz 0 [36] (.pure (AV.str T) (.go 0 .fin))))))))) (et (h) (et (Eq.refl ((format6_e0_0S l) (()))) (et (by trivial : True) (et (fun (x0 : Unit) (hx0 : (format6_e0_0I l) x0) => have hx0 : True := hx0; (et (anm6_ok) (et (hk) (et (et (Eq.refl true) True.intro) (Nx.mk (I := (Sum.elim (format6_e0_0I l) (format6_e0_1I l))) (m := (Sum.elim (fun x => 1) (fun x => 0))) (S := (Sum.elim (format6_e0_0S l) (format6_e0_1S l))) (x := (.inl x0)) (.inr (())) (by trivial : True) (by first | omega | decide : (0 : Nat) < (1 : Nat))))))) (fun (x0 : Unit) (hx0 : (format6_e0_1I l) x0) => have hx0 : True := hx0; (et True.intro (et (hj) ((Le.refl _) : Le _ (AV.str T))))))))) (by kernel_rfl)
def format7_e0_0I (l : Str) (x0 : Unit) : Prop := True
noncomputable def format7_e0_0S (l : Str) (x0 : Unit) : List AV × List AObj := ([AV.nils, AV.ps [AV.agg [AV.int IntKind.i64 7, AV.str l]] true, AV.int IntKind.i64 1, AV.int IntKind.i64 0], [])
def format7_e0_1I (l : Str) (x0 : Unit) : Prop := True
noncomputable def format7_e0_1S (l : Str) (x0 : Unit) : List AV × List AObj := ([AV.slice 0 1 0 2 none, AV.ps [AV.agg [AV.int IntKind.i64 7, AV.str l]] true, AV.int IntKind.i64 1, AV.int IntKind.i64 1], [AObj.row 1 true 1 [AV.str [110, 111, 116, 101], AV.str l]])
theorem format7_ok (l : Str) (hs : l.length ≤ 2 ^ 39) (hb : addrB [⟨7, l⟩] = true) : HPure Tryz.prog G 28 [.ps [.agg [.int .i64 7, .str l]] true] (.str (text1 ⟨7, l⟩)) := by
  have h := addr1_ok ⟨7, l⟩ hs
  have hk := abook_ok ⟨7, l⟩
  have hj := join2_ok [110, 111, 116, 101] l (by decide) hs
  rw [hb] at h
  rw [text1_lab 7 l hb rfl, show kindNm 7 ++ [32] ++ l = [110, 111, 116, 101] ++ [32] ++ l from rfl]
  generalize [110, 111, 116, 101] ++ [32] ++ l = T at *
  exact HPure.walk mixed gtop (ev 40) (by kernel_rfl) (by kernel_rfl) (fn := Tryz.f28) Tryz.func28 (by kernel_rfl) rfl ⟨by kernel_rfl, by kernel_rfl⟩ (.go 1 (.pure (AV.bool true) (.go 5 (.loop2 (Unit) (Unit) [3, 11, 12, 13] (format7_e0_0S l) (format7_e0_1S l) (format7_e0_0I l) (format7_e0_1I l) (fun x => 1) (fun x => 0) (.inl (())) (fun x0 => (.go 7 (.pure (AV.tuple [AV.str [110, 111, 116, 101], AV.bool true]) (.go 10 (.pure (AV.bool false) (.go 9 (.ren [1, 0] [] [3, 11, 12, 13] (.frz 1 [3, 11, 12, 13] .fin)))))))) (fun x0 => (.go 2 (.frz 0 [36] (.pure (AV.str T) (.go 0 .fin))))))))) (et (h) (et (Eq.refl ((format7_e0_0S l) (()))) (et (by trivial : True) (et (fun (x0 : Unit) (hx0 : (format7_e0_0I l) x0) => have hx0 : True := hx0; (et (anm7_ok) (et (hk) (et (et (Eq.refl true) True.intro) (Nx.mk (I := (Sum.elim (format7_e0_0I l) (format7_e0_1I l))) (m := (Sum.elim (fun x => 1) (fun x => 0))) (S := (Sum.elim (format7_e0_0S l) (format7_e0_1S l))) (x := (.inl x0)) (.inr (())) (by trivial : True) (by first | omega | decide : (0 : Nat) < (1 : Nat))))))) (fun (x0 : Unit) (hx0 : (format7_e0_1I l) x0) => have hx0 : True := hx0; (et True.intro (et (hj) ((Le.refl _) : Le _ (AV.str T))))))))) (by kernel_rfl)
def format0_e0_0I  (x0 : Unit) : Prop := True
noncomputable def format0_e0_0S  (x0 : Unit) : List AV × List AObj := ([AV.nils, AV.ps [AV.agg [AV.int IntKind.i64 0, AV.str []]] true, AV.int IntKind.i64 1, AV.int IntKind.i64 0], [])
def format0_e0_1I  (x0 : Unit) : Prop := True
noncomputable def format0_e0_1S  (x0 : Unit) : List AV × List AObj := ([AV.slice 0 0 0 1 none, AV.ps [AV.agg [AV.int IntKind.i64 0, AV.str []]] true, AV.int IntKind.i64 1, AV.int IntKind.i64 1], [AObj.row 1 true 0 [AV.str [98, 111, 111, 107]]])
theorem format0_ok : HPure Tryz.prog G 28 [.ps [.agg [.int .i64 0, .str []]] true] (.str (text1 ⟨0, []⟩)) := by
  have h := addr1_ok ⟨0, []⟩ (by simp)
  have hk := abook_ok ⟨0, []⟩
  have hj := join1_ok [98, 111, 111, 107] (by decide)
  rw [show addrB [⟨0, []⟩] = true by kernel_rfl] at h
  rw [show text1 ⟨0, []⟩ = [98, 111, 111, 107] by kernel_rfl]
  exact HPure.walk mixed gtop (ev 40) (by kernel_rfl) (by kernel_rfl) (fn := Tryz.f28) Tryz.func28 (by kernel_rfl) rfl ⟨by kernel_rfl, by kernel_rfl⟩ (.go 1 (.pure (AV.bool true) (.go 5 (.loop2 (Unit) (Unit) [3, 11, 12, 13] (format0_e0_0S ) (format0_e0_1S ) (format0_e0_0I ) (format0_e0_1I ) (fun x => 1) (fun x => 0) (.inl (())) (fun x0 => (.go 7 (.pure (AV.tuple [AV.str [98, 111, 111, 107], AV.bool true]) (.go 10 (.pure (AV.bool true) (.go 3 (.ren [1, 0] [] [3, 11, 12, 13] (.frz 1 [3, 11, 12, 13] .fin)))))))) (fun x0 => (.go 2 (.frz 0 [36] (.pure (AV.str [98, 111, 111, 107]) (.go 0 .fin))))))))) (et (h) (et (Eq.refl ((format0_e0_0S ) (()))) (et (by trivial : True) (et (fun (x0 : Unit) (hx0 : (format0_e0_0I ) x0) => have hx0 : True := hx0; (et (anm0_ok) (et (hk) (et (et (Eq.refl true) True.intro) (Nx.mk (I := (Sum.elim (format0_e0_0I ) (format0_e0_1I ))) (m := (Sum.elim (fun x => 1) (fun x => 0))) (S := (Sum.elim (format0_e0_0S ) (format0_e0_1S ))) (x := (.inl x0)) (.inr (())) (by trivial : True) (by first | omega | decide : (0 : Nat) < (1 : Nat))))))) (fun (x0 : Unit) (hx0 : (format0_e0_1I ) x0) => have hx0 : True := hx0; (et True.intro (et (hj) ((Le.refl _) : Le _ (AV.str [98, 111, 111, 107]))))))))) (by kernel_rfl)
end Go.Proofs.YtjnecjhkmhhnnaaGreatDoor
