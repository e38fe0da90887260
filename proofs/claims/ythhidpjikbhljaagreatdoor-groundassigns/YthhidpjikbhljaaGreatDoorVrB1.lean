/-
  What is proved: lemmas and contracts of functions on the way to the law groundAssigns (part 10).
-/
import Derived.Test.YthhidpjikbhljaaGreatDoorVrA7
import Derived.Test.YthhidpjikbhljaaGreatDoorVrA9
import Derived.Test.YthhidpjikbhljaaGreatDoorVrA5
import Derived.Test.YthhidpjikbhljaaGreatDoorVrA8
import Derived.Test.YthhidpjikbhljaaGreatDoorVrA2
import Derived.Scope
import Derived.RangeFuncBox
import Derived.RangeFuncNested
import Derived.RangeFuncBound
import Derived.RangeFuncCalls
import Derived.RangeFuncLeaves
import Derived.Shelf.Abstract
import Derived.Shelf.RegionOpen
import Derived.WalkKit
import Derived.OwnWalkIn
import Derived.TacticsInMore
import Derived.LoopNIn
import Derived.LoopIn
import Derived.Lib.Hide
set_option linter.unusedSectionVars false
set_option linter.unusedSimpArgs false
set_option linter.unusedVariables false
set_option linter.unnecessarySimpa false
set_option linter.deprecated false
namespace Go.Sim
theorem f89_k : ∀ (l : List Int) (k k' : Nat), s89_l1 l k = s89_l1 l k'
 | [], _, _ => rfl
 | x :: l, k, k' => by simp only [s89_l1]; rw [f89_k l (k + 1) (k' + 1)]
theorem s89_nil : s89 [] = 0 := rfl
theorem s89_cons (x : Int) (l : List Int) : s89 (x :: l) = if x = 0 then s89 l else x := by
 unfold s89;simp only [s89_l1];rw [f89_k l (0 + 1) 0]
 by_cases h : x = 0 <;> simp [h]
theorem f1085_k : ∀ (l : List Int) (k : Nat), s1085_l1 l k = s89_l1 l k
 | [], _ => rfl
 | x :: l, k => by simp only [s1085_l1, s89_l1]; rw [f1085_k l (k + 1)]
theorem s1085_eq (l : List Int) : s1085 l = s89 l := f1085_k l 0
theorem s1088_eq (a b c : Int) : s1088 a b c = s90 a b c := rfl
theorem s1098_eq (a : Int) : s1098 a = s96 a := rfl
theorem s90_ite (a b c : Int) : s90 a b c = if b ≤ a ∧ a ≤ c then 0 else 3 := by
 unfold s90
 by_cases h1 : a < b <;> by_cases h2 : c < a <;> simp [h1, h2] <;> omega
theorem s1086_ite (b : Bool) (e : Int) : s1086 b e = if b = true then e else 0 := by cases b <;> rfl
theorem decode_lo {s : ByteArray} {i : Nat} (h : (s.get! i).toNat < 128) : Utf8.decode s i = ((s.get! i).toNat, 1) := by
 unfold Utf8.decode
 simp [h]
theorem decode_hi {s : ByteArray} {i : Nat} (h : 128 ≤ (s.get! i).toNat) : 128 ≤ (Utf8.decode s i).1 := by
 unfold Utf8.decode;simp only [Nat.add_zero];rw [if_neg (by omega)]
 repeat' split
 all_goals first | assumption | (simp [Utf8.runeError]; done) | (rename_i h2; simp only [Bool.and_eq_true, decide_eq_true_eq] at h2; have h3 := h2.1; dsimp only; omega)
theorem get_toList {s : ByteArray} {i : Nat} (h : i < s.data.toList.length) : s.get! i = s.data.toList[i] := by
 have h' : i < s.data.size := by simpa using h
 show s.data[i]! = _;rw [getElem!_pos s.data i h']
 simp
theorem name_loop (s : ByteArray) : ∀ n pos, s.size ≤ pos + n → s147_l1 (runesF s n pos) = s91_l1 (s.data.toList.drop pos) pos := by
 intro n
 induction n with
 | zero =>
  intro pos h;rw [List.drop_eq_nil_of_le (by simpa using h)]; rfl
 | succ n ih =>
  intro pos h;unfold runesF
  split
  ·rename_i hp
   have hl : pos < s.data.toList.length := by simpa using hp
   rw [List.drop_eq_getElem_cons hl, s147_l1, s91_l1, ← get_toList hl]
   rcases Nat.lt_or_ge (s.get! pos).toNat 128 with hb | hb
   ·rw [decode_lo hb, ih (pos + 1) (by omega)];have e1 : (decide (((pos : Nat) : Int) = 0)) = decide ((pos : Int) = 0) := rfl;dsimp only;rw [Bool.or_comm ((decide ((65 : Int) ≤ _)) && _)]
   ·have hb2 := decode_hi hb
    have c1 : (!(((decide ((65 : Int) ≤ ((Utf8.decode s pos).1 : Int))) && (decide (((Utf8.decode s pos).1 : Int) ≤ 90))) || ((decide ((97 : Int) ≤ ((Utf8.decode s pos).1 : Int))) && (decide (((Utf8.decode s pos).1 : Int) ≤ 122))))) = true := by
     simp; omega
    have c2 : (!(((decide ((97 : Int) ≤ ((s.get! pos).toNat : Int))) && (decide (((s.get! pos).toNat : Int) ≤ 122))) || ((decide ((65 : Int) ≤ ((s.get! pos).toNat : Int))) && (decide (((s.get! pos).toNat : Int) ≤ 90))))) = true := by
     simp; omega
    dsimp only;rw [c1, c2]
    have d1 : (decide (((Utf8.decode s pos).1 : Int) ≠ 95) && (decide (((Utf8.decode s pos).1 : Int) < 48) || decide (57 < ((Utf8.decode s pos).1 : Int)))) = true := by simp; omega
    have d2 : (decide (((s.get! pos).toNat : Int) ≠ 95) && (decide (((s.get! pos).toNat : Int) < 48) || decide (57 < ((s.get! pos).toNat : Int)))) = true := by simp; omega
    rw [d1, d2]; simp
  ·rename_i hp
   rw [List.drop_eq_nil_of_le (by simpa using hp)]; rfl
theorem name_eq (s : ByteArray) : s147 s = s91 s := by
 unfold s147 s91 runes;rw [name_loop s _ 0 (by omega)]; rfl
theorem s1089_eq (s : ByteArray) : s1089 s = s1093 s := by
 unfold s1089 s1093; rw [name_eq, s1086_ite, cond_eq_ite]
theorem own_l1 (l : List S1122) (k : Nat) (x : List S1122) : s1017_l1 l k x = x ++ l := by
 induction l generalizing k x with
 | nil => simp [s1017_l1]
 | cons y l ih => simp [s1017_l1, ih]
theorem s1017_eq (l : List S1122) : s1017 l = l := by unfold s1017; rw [own_l1]; rfl
theorem crew_l1 (l : List S1124) (k : Nat) (x : List S1124) : s1019_l1 l k x = x ++ l := by
 induction l generalizing k x with
 | nil => simp [s1019_l1]
 | cons y l ih => simp [s1019_l1, ih]
theorem s1019_eq (l : List S1124) : s1019 l = l := by unfold s1019; rw [crew_l1]; rfl
theorem ixO_at {α : Type} {l : List α} {i : Nat} (h : i < l.length) : ixO l (i : Int) = some l[i] := by
 unfold ixO; rw [decide_eq_true (by omega), cond_true]; simp [h]
theorem seek {α β : Type} {l : List α} {p : α → Bool} {e : β} {b : Option β} (F : Nat → Int → Option β) (h0 : ∀ x, F 0 x = b)
  (h1 : ∀ n x, F (n + 1) x = bindO (ixO l x) fun y => bif p y then some e else F n (x + 1)) : ∀ n i, i + n ≤ l.length →
  F n (i : Int) = bif ((l.drop i).take n).any p then some e else b
 | 0, i, _ => by rw [h0]; rfl
 | n + 1, i, h => by
  have hi : i < l.length := by omega
  rw [h1, ixO_at hi, List.drop_eq_getElem_cons hi, List.take_succ_cons, List.any_cons];have := seek F h0 h1 n (i + 1) (by omega);simp only [bindO];rw [show ((i : Int) + 1) = ((i + 1 : Nat) : Int) by push_cast; rfl, this]
  cases p l[i] <;> simp
theorem index_k {α : Type} (p : α → Bool) (F : List α → Nat → Int) (h0 : ∀ k, F [] k = -1) (h1 : ∀ y t k, F (y :: t) k = bif p y then ((k : Nat) : Int) else F t (k + 1)) :
  ∀ l k, decide (0 ≤ F l k) = l.any p
 | [], k => by rw [h0]; rfl
 | y :: t, k => by
  rw [h1, List.any_cons]
  cases p y with
  | true => simp
  | false => simpa using index_k p F h0 h1 t (k + 1)
theorem s1083_eq (l : List S1122) (p : S1122 → Bool) : s1083 l p = l.any p :=
 index_k p (s1136_l1 p) (fun _ => rfl) (fun _ _ _ => rfl) l 0
theorem s1096_eq (l : List S1124) (p : S1124 → Bool) : s1096 l p = l.any p :=
 index_k p (s1137_l1 p) (fun _ => rfl) (fun _ _ _ => rfl) l 0
theorem stands_l (a : List S1122) : ∀ t k, a.drop k = t → s1024_l1 a t k = some (s1081_l1 a s1082 t k)
 | [], k, _ => rfl
 | y :: t, k, h => by
  have hk : k < a.length := by
   rcases Nat.lt_or_ge k a.length with h1 | h1
   ·exact h1
   ·rw [List.drop_eq_nil_of_le h1] at h; cases h
  have ht : a.drop (k + 1) = t := by rw [← List.drop_drop, h]; rfl
  rw [s1024_l1, s1081_l1];have h3 := seek (l := a) (p := fun z => decide (z.Name = y.Name)) (s1024_l2 (fun k_ => s1024_l1 a t k_) a k y) (b := bif decide ((s89 [(s1092 y.Size), (s1093 y.Terminal)]) ≠ 0) then some (s89 [(s1092 y.Size), (s1093 y.Terminal)]) else s1024_l1 a t (k + 1)) (e := 9) (fun _ => rfl) (fun _ _ => rfl) k 0 (by omega);rw [show (((k : Nat) : Int) - 0).toNat = k by omega, show (0 : Int) = ((0 : Nat) : Int) from rfl, h3, stands_l a t (k + 1) ht]
  have h4 : s1082 y (a.take k) = if s91 y.Name = false then 8 else if (a.take k).any (fun z => decide (z.Name = y.Name)) = true then 9 else s89 [(s1092 y.Size), (s1093 y.Terminal)] := by
   unfold s1082;rw [s1085_eq, s1083_eq, s1086_ite, s1086_ite, name_eq, s1089_eq, s1088_eq];simp only [s89_cons, s89_nil, s1084, s1092]
   cases s91 y.Name <;> simp
   split <;> simp_all
  rw [show Int.toNat ((k : Nat) : Int) = k by omega, h4];generalize s89 [(s1092 y.Size), (s1093 y.Terminal)] = E
  cases hn : s91 y.Name
  ·simp
  ·cases ha : (a.take k).any (fun z => decide (z.Name = y.Name)) <;> simp [ha]
   by_cases hE : E = 0 <;> simp [hE]
theorem stands_eq (a : List S1122) : s1024 a = some (s1023 a) := by
 unfold s1024 s1023 s1081;rw [stands_l a a 0 rfl]
 cases decide (32 < (List.length a : Int)) <;> rfl
theorem turns_l (a : List S1124) : ∀ t k, a.drop k = t → s1026_l1 a t k = some (s1094_l1 a s1095 t k)
 | [], k, _ => rfl
 | y :: t, k, h => by
  have hk : k < a.length := by
   rcases Nat.lt_or_ge k a.length with h1 | h1
   ·exact h1
   ·rw [List.drop_eq_nil_of_le h1] at h; cases h
  have ht : a.drop (k + 1) = t := by rw [← List.drop_drop, h]; rfl
  rw [s1026_l1, s1094_l1];have h3 := seek (l := a) (p := fun z => decide (z.Name = y.Name)) (s1026_l2 (fun k_ => s1026_l1 a t k_) a k y) (b := s1026_l2 (fun k_ => s1026_l1 a t k_) a k y 0 0) (e := 9) (fun _ => rfl) (fun _ _ => rfl) k 0 (by omega);rw [show (((k : Nat) : Int) - 0).toNat = k by omega, show s1026_l2 (fun k_ => s1026_l1 a t k_) a k y k 0 = s1026_l2 (fun k_ => s1026_l1 a t k_) a k y k ((0 : Nat) : Int) from rfl, h3]
  have h4 : s1095 y (a.take k) = if s91 y.Name = false then 8 else if (a.take k).any (fun z => decide (z.Name = y.Name)) = true then 9 else s89 [s96 y.Start, s96 y.End, if y.End < y.Start then 11 else 0, (s1092 y.Size), (s1093 y.Terminal)] := by
   unfold s1095;rw [s1085_eq, s1096_eq, s1086_ite, s1086_ite, s1086_ite, name_eq, s1089_eq, s1088_eq, s1098_eq, s1098_eq];simp only [s89_cons, s89_nil, s1097, s1092, decide_eq_true_eq]
   cases s91 y.Name <;> simp
   split <;> simp_all
  have h5 : s1026_l2 (fun k_ => s1026_l1 a t k_) a k y 0 0 = if s89 [s96 y.Start, s96 y.End, if y.End < y.Start then 11 else 0, (s1092 y.Size), (s1093 y.Terminal)] = 0 then s1026_l1 a t (k + 1) else some (s89 [s96 y.Start, s96 y.End, if y.End < y.Start then 11 else 0, (s1092 y.Size), (s1093 y.Terminal)]) := by
   unfold s1026_l2 s1026_j1;simp only [s89_cons, s89_nil]
   by_cases c1 : s96 y.Start = 0 <;> by_cases c2 : s96 y.End = 0 <;> by_cases c3 : y.End < y.Start <;> by_cases c4 : s1092 y.Size = 0 <;> by_cases c5 : s1093 y.Terminal = 0 <;> simp [c1, c2, c3, c4, c5]
  rw [show Int.toNat ((k : Nat) : Int) = k by omega, h4, h5, turns_l a t (k + 1) ht];generalize s89 [s96 y.Start, s96 y.End, if y.End < y.Start then 11 else 0, (s1092 y.Size), (s1093 y.Terminal)] = E
  cases hn : s91 y.Name
  ·simp
  ·cases ha : (a.take k).any (fun z => decide (z.Name = y.Name)) <;> simp [ha]
   by_cases hE : E = 0 <;> simp [hE]
theorem turns_eq (a : List S1124) : s1026 a = some (s1025 a) := by
 unfold s1026 s1025 s1094;rw [turns_l a a 0 rfl]
 cases decide (256 < (List.length a : Int)) <;> rfl
theorem s89_zero : ∀ (l : List Int), s89 l = 0 ↔ ∀ x ∈ l, x = 0
 | [] => by simp [s89_nil]
 | x :: l => by
  rw [s89_cons]
  by_cases h : x = 0
  ·simp [h, s89_zero l]
  ·simp [h]
theorem s90_zero (a b c : Int) : s90 a b c = 0 ↔ b ≤ a ∧ a ≤ c := by rw [s90_ite]; split <;> simp_all
theorem s96_zero (a : Int) : s96 a = 0 ↔ 0 ≤ a ∧ a ≤ 143999999 := s90_zero _ _ _
theorem s1086_zero (b : Bool) (e : Int) (he : e ≠ 0) : s1086 b e = 0 ↔ b = false := by rw [s1086_ite]; cases b <;> simp [he]
structure TurnOk (t : S1124) : Prop where
 s0 : 0 ≤ t.Start
 se : t.Start ≤ t.End
 e1 : t.End ≤ 143999999
 z0 : 1 ≤ t.Size
 z1 : t.Size ≤ 9
 nm : s91 t.Name = true
theorem turns_all (a : List S1124) : ∀ t k, s1094_l1 a s1095 t k = 0 → ∀ y ∈ t, TurnOk y
 | [], _, _, y, hy => by cases hy
 | z :: t, k, h, y, hy => by
  rw [s1094_l1] at h
  by_cases h0 : s1095 z (List.take (Int.toNat ((k : Nat) : Int)) a) = 0
  ·rw [h0] at h
   rcases List.mem_cons.1 hy with rfl | hy
   ·unfold s1095 at h0;rw [s1085_eq, s89_zero] at h0;simp only [List.mem_cons, List.not_mem_nil, or_false, forall_eq_or_imp, forall_eq] at h0;obtain ⟨g1, _, g3, g4, g5, g6, _⟩ := h0;rw [s1086_zero _ _ (by decide), name_eq] at g1;rw [s1098_eq, s96_zero] at g3 g4;rw [s1086_zero _ _ (by decide)] at g5;rw [s1088_eq, s90_zero] at g6
    simp at g1 g5
    exact ⟨g3.1, g5, g4.2, g6.1, g6.2, g1⟩
   ·exact turns_all a t (k + 1) (by simpa using h) y hy
  ·rw [decide_eq_true h0, cond_true] at h; exact absurd h h0
theorem turns_ok {l : List S1124} (h : s1025 l = 0) : l.length ≤ 256 ∧ ∀ y ∈ l, TurnOk y := by
 unfold s1025 s1094 at h
 cases hc : decide ((256 : Int) < (List.length l : Int))
 ·rw [hc] at h;exact ⟨by have := of_decide_eq_false hc; omega, turns_all l l 0 h⟩
 ·rw [hc] at h; simp at h
structure StandOk (t : S1122) : Prop where
 z0 : 1 ≤ t.Size
 z1 : t.Size ≤ 9
 nm : s91 t.Name = true
theorem stands_all (a : List S1122) : ∀ t k, s1081_l1 a s1082 t k = 0 → ∀ y ∈ t, StandOk y
 | [], _, _, y, hy => by cases hy
 | z :: t, k, h, y, hy => by
  rw [s1081_l1] at h
  by_cases h0 : s1082 z (List.take (Int.toNat ((k : Nat) : Int)) a) = 0
  ·rw [h0] at h
   rcases List.mem_cons.1 hy with rfl | hy
   ·unfold s1082 at h0;rw [s1085_eq, s89_zero] at h0;simp only [List.mem_cons, List.not_mem_nil, or_false, forall_eq_or_imp, forall_eq] at h0;obtain ⟨g1, _, g6, _⟩ := h0;rw [s1086_zero _ _ (by decide), name_eq] at g1;rw [s1088_eq, s90_zero] at g6
    simp at g1
    exact ⟨g6.1, g6.2, g1⟩
   ·exact stands_all a t (k + 1) (by simpa using h) y hy
  ·rw [decide_eq_true h0, cond_true] at h; exact absurd h h0
theorem stands_ok {l : List S1122} (h : s1023 l = 0) : l.length ≤ 32 ∧ ∀ y ∈ l, StandOk y := by
 unfold s1023 s1081 at h
 cases hc : decide ((32 : Int) < (List.length l : Int))
 ·rw [hc] at h;exact ⟨by have := of_decide_eq_false hc; omega, stands_all l l 0 h⟩
 ·rw [hc] at h; simp at h
structure MovOk (m : S1079) : Prop where
 m0 : 0 ≤ m.Moment
 m1 : m.Moment ≤ 143999999
 s0 : 0 ≤ m.Seats
 s1 : m.Seats ≤ 999
 n0 : 0 ≤ m.Noise
 n1 : m.Noise ≤ 99
 kd : m.Kind = ⟨#[65]⟩ ∨ m.Kind = ⟨#[68]⟩
 nm : s91 m.Name = true
structure SeatOk (x : S1063) : Prop where
 l0 : 1 ≤ x.Length
 l1 : x.Length ≤ 1440
 s0 : 1 ≤ x.Step
 s1 : x.Step ≤ x.Length
 m0 : 0 ≤ x.Most
 m1 : x.Most ≤ 999999999
 kd : x.Kind = ⟨#[65]⟩ ∨ x.Kind = ⟨#[68]⟩ ∨ x.Kind = ⟨#[84]⟩
theorem s1040_eq (l : List Int) : s1040 l = s89 l := id rfl
theorem alike_sym (a b : ByteArray) : s1126 a b = s1127 b a := by
 unfold s1126 s1127
 by_cases h1 : a = b
 ·subst h1; simp
 ·have h2 : ¬ b = a := fun h => h1 h.symm;simp only [h1, h2, decide_false, Bool.false_or];rw [Bool.or_comm]
theorem suits_eq (t : S1124) (s : S1122) : s1128 t s = s1068 s t := by unfold s1128 s1068; rw [alike_sym]
theorem end_wrap {e b : Int} (h0 : 0 ≤ e) (h1 : e ≤ 143999999) (h2 : 0 ≤ b) (h3 : b ≤ 240) : IntKind.i64.wrap (e + b) = e + b := wrap_i64 (by unfold I64; omega)
theorem overlap_eq {a c : S1124} {b : Int} (ha : TurnOk a) (hc : TurnOk c) (h2 : 0 ≤ b) (h3 : b ≤ 240) : s1130 a c b = s1070 a c b := by
 unfold s1130 s1070 s1131;have := ha.s0; have := ha.se; have := ha.e1; have := hc.s0; have := hc.se; have := hc.e1;rw [end_wrap (by omega) (by omega) h2 h3, end_wrap (by omega) (by omega) h2 h3, end_wrap (by omega) (by omega) h2 h3];rw [Bool.eq_iff_iff]
 simp
 omega
section
variable {E : Env} {w0 : World} {M0 : Nat → Prop}
def AgF (c k : Nat) (xs : List (List G)) (ev : Operand → TV) : List Operand → List G → Prop
 | [], [] => True
 | x :: l, g :: gs => (ev x = .g g ∨ (ev x = .osl c (k + 1) 0 xs.length ∧ g = .sl (k + 1) xs)) ∧ AgF c k xs ev l gs
 | _, _ => False
theorem agf_nil {c k : Nat} {xs : List (List G)} {ev : Operand → TV} : AgF c k xs ev [] [] := trivial
theorem agf_cons {c k : Nat} {xs : List (List G)} {ev : Operand → TV} {x : Operand} {l : List Operand} {g : G} {gs : List G} (h : ev x = .g g) (hl : AgF c k xs ev l gs) : AgF c k xs ev (x :: l) (g :: gs) := ⟨.inl h, hl⟩
theorem agf_osl {α : Type} {f0 : α → List G} {c k N : Nat} {l0 : List α} {ev : Operand → TV} {x : Operand} {l : List Operand} {gs : List G} (hN : l0.length = N) (h : ev x = .osl c (k + 1) 0 N) (hl : AgF c k (l0.map f0) ev l gs) : AgF c k (l0.map f0) ev (x :: l) (.sl (k + 1) (l0.map f0) :: gs) :=
 ⟨.inr ⟨by rw [h, List.length_map, hN], rfl⟩, hl⟩
theorem eff_callF {o : Oper} {mem : Mem} {ev : Operand → TV} {f : FuncId} {aps : Array Operand} {ts : Array TypeId} {args : List G} {r : G} {e : TypeId} {k : Nat} {xs : List (List G)} (c : Nat) (ho : o.op = .call ⟨.value (.func f), aps, ts⟩)
  (hk : Known E.P f) (hev : ev (.func f) = .g (.lit (.func (.func f) #[] #[]))) (hc : Con E f args r) (ha : AgF c k xs ev aps.toList args) (hl : lookO mem c = some (.arr e (k + 1) xs))
  (hrefs : ∀ i blk, lookO mem i = some blk → i ≠ c → blk.noref (some c) = true) (hbw : lookO E.bow c = none := by rfl) :
  EffW E o mem ev (.g r) ((c, .gone) :: mem) (some c) := by
 intro w0 M0 ρ w e' hm hx;obtain ⟨fn, h1, h2, h3⟩ := hk
 have hef : e' (.func f) = .func (.func f) #[] #[] := by
  have := hx (.func f) (by rw [ho]; simp [Op.operands, Call.operands]);rw [hev] at this;exact this
 have hres : (execOp e' o).run E.P w = .ok (.enter f (aps.toList.map e').toArray) w := by
  simp [execOp, ho, resolve, hef, Deferred.ofValue, invoke, run_callFunc h1 h2 h3, ← Array.toList_map]
 rw [hres]
 let ρ' : Rho := fun id => if id = c then none else ρ id
 have hρn : ∀ id, id ≠ c → ρ' id = ρ id := fun id h => by simp only [ρ', if_neg h]
 have hρ' : ∀ id x, ρ' id = some x → ρ id = some x ∧ id ≠ c := by
  intro id x h;simp only [ρ'] at h
  split at h
  ·cases h
  ·exact ⟨h, by assumption⟩
 have hM : ∀ b, owned M0 ρ' b → owned M0 ρ b := by
  rintro b (hb | ⟨id, o, ho, rfl⟩)
  ·exact .inl hb
  ·exact .inr ⟨id, o, (hρ' id _ ho).1, rfl⟩
 have hno : ∀ ow, ρ c = some (some ow) → ¬ owned M0 ρ' ow.b := by
  rintro ow ho (hM0 | ⟨i, o, hi, he⟩)
  ·exact not_lent hm ho hbw (.inl hM0)
  ·exact (hρ' i _ hi).2 (hm.inj i c o ow (hρ' i _ hi).1 ho he)
 have hkl : ∀ id, some id ≠ some c → ρ id ≠ none → ρ' id = ρ id := fun id h _ => hρn id fun e => h (by rw [e])
 have hne : ∀ id b, lookO ((c, Blk.gone) :: mem) id = some b → (id = c ∧ b = .gone) ∨ (id ≠ c ∧ lookO mem id = some b) := by
  intro id b h;simp only [lookO] at h
  cases hbq : Nat.beq c id with
  | true =>
   rw [hbq] at h;exact .inl ⟨(Nat.eq_of_beq_eq_true hbq).symm, by simpa using h.symm⟩
  | false =>
   rw [hbq] at h;refine .inr ⟨fun e => ?_, h⟩;rw [e, Nat.beq_refl] at hbq; cases hbq
 have hglob : GlOk E w (owned M0 ρ') := by
  intro g vs hg;have := hm.glob g vs hg;exact ⟨⟨fun hb => this.1.1 (hM _ hb), this.1.2⟩, this.2.mono (fun _ _ _ => rfl) (fun b _ => hM b) this.1.1⟩
 have hm' : MRel E w0 M0 ρ' ((c, .gone) :: mem) w := by
  refine ⟨hm.below, hm.m0, hglob, ?_, ?_, ?_, ?_, hm.lentM, ?_⟩
  ·intro id x h;obtain ⟨h1, h2⟩ := hρ' id x h;obtain ⟨b, hb⟩ := hm.dom id x h1;refine ⟨b, ?_⟩;simp only [lookO]
   rw [show Nat.beq c id = false from by
    cases hbq : Nat.beq c id with
    | true => exact absurd (Nat.eq_of_beq_eq_true hbq).symm h2
    | false => rfl]
   exact hb
  ·exact fun id ow h => hm.fresh id ow (hρ' id _ h).1
  ·exact fun id id' ow ow' h1 h2 => hm.inj id id' ow ow' (hρ' id _ h1).1 (hρ' id' _ h2).1
  ·intro id x h;rw [hρn id (fun e => by rw [e, hbw] at h; cases h)];exact hm.keep id x h
  ·intro id blk h
   rcases hne id blk h with ⟨_, rfl⟩ | ⟨h1, h2⟩
   ·trivial
   ·exact (hm.blk id blk h2).mono (some c) (fun e => h1 (Option.some.inj e)) (hrefs id blk h2 h1) (fun ow ho => rfl) (fun _ _ _ => rfl) (fun b _ => hM b) hkl
 have hv : ∀ (l : List Operand) (args : List G), (∀ x ∈ l, TRel w (owned M0 ρ) ρ (ev x) (e' x)) → AgF c k xs ev l args → FitsT w (owned M0 ρ') args (l.map e') := by
  intro l
  induction l with
  | nil =>
   intro args _ h
   cases args with
   | nil => trivial
   | cons _ _ => exact h.elim
  | cons x l ih =>
   intro args hx h
   cases args with
   | nil => exact h.elim
   | cons g gs =>
    refine ⟨?_, ih gs (fun y hy => hx y (List.mem_cons_of_mem _ hy)) h.2⟩;have h0 := hx x List.mem_cons_self
    rcases h.1 with h1 | ⟨h1, rfl⟩
    ·rw [h1] at h0;exact g.mono h0 (fun _ _ _ => rfl) (fun b _ => hM b)
    ·rw [h1] at h0;have hview := osl_view hm hl h0 (Nat.zero_le _) (Nat.le_refl _);obtain ⟨a', cap, e1, g1, g2, g3, g4, g5, g6⟩ := hview;simp only [Nat.sub_zero, List.drop_zero, List.take_length] at e1 g1 g4 g5 g6;refine ⟨a', cap, e1, g1, g2, g5, ?_⟩
     rcases g6 with g6 | ⟨b, o, cur, news, rfl, ⟨ow, k0, rfl⟩, k1, k2, k3⟩
     ·have : xs = [] := List.eq_nil_of_length_eq_zero g6;subst this;exact .inl ⟨rfl, fun ha => (g3 ha).1⟩
     ·exact .inr ⟨ow.b, o, rfl, hno ow k0, cells_of_fits k1 (k2.mono (fun _ _ _ => rfl) (fun b _ => hM b)) k3⟩
 refine (hc w (owned M0 ρ') _ (fun b h => hm'.lt b h) hglob (hv aps.toList args (fun x hx' => hx x (by rw [ho]; simp [Op.operands, Call.operands]; exact .inr (by simpa using hx'))) ha)).mono ?_;rintro _ w' ⟨v, rfl, hg, hr⟩;exact ⟨v, rfl, ρ', hm'.grow hg, fun tv u hn' h => (h.mono (some c) hn' (fun _ _ _ => rfl) (fun b _ => hM b) hkl : TRel w (owned M0 ρ') ρ' tv u).grow hg, hr⟩
end
theorem ground_zero {a : List S1122} {b : List S1124} {c : Int} : s1104 a b c = 0 ↔ s1023 a = 0 ∧ s1025 b = 0 ∧ s1123 c = 0 := by
 unfold s1104; rw [s1085_eq, s89_zero]; simp
section
variable {E : Env} {w0 : World} {M0 : Nat → Prop}
def Env.turn (E : Env) (lp : Nat) (mem : Mem) (x : Nat → Option Own) : Env := ⟨E.P, E.gl, E.orders, mem.map fun p => (p.1, x p.1), some lp, false⟩
theorem Con.turn {f : FuncId} {args : List G} {r : G} {lp : Nat} {mem : Mem} {x : Nat → Option Own} (h : Con E f args r) : Con (E.turn lp mem x) f args r := h
theorem ConB.turn {f : FuncId} {args : List TV} {r : G} {m m' : Mem} {lp : Nat} {mem : Mem} {x : Nat → Option Own} (h : ConB E f args m r m') : ConB (E.turn lp mem x) f args m r m' := h
def Jm (ρ : Rho) (Mo : Nat → Prop) (lp D : Nat) (w : World) (st : Obj) (m : Mem) (W : World) : Prop :=
 BelowX (fun b => b = lp ∨ ∃ id ow, ρ id = some (some ow) ∧ ow.b = b) w W ∧ (∀ id blk, lookO m id = some blk → BRel W Mo ρ id blk) ∧ W.heap[lp]? = some st ∧ W.heap[D]? = some (.deferred (some []))
theorem Jm.grow {ρ : Rho} {Mo : Nat → Prop} {lp D : Nat} {w W W' : World} {st : Obj} {m : Mem} (hsub : ∀ id ow, ρ id = some (some ow) → ow.b < w.heap.size) (h : Jm ρ Mo lp D w st m W) (hg : Grow W W') : Jm ρ Mo lp D w st m W' := by
 obtain ⟨h1, h2, h3, h4⟩ := h;refine ⟨h1.trans (BelowX.of_grow hg), fun id blk hb => ?_, (hg.block lp (Array.getElem?_eq_some_iff.1 h3).1).trans h3, (hg.block D (Array.getElem?_eq_some_iff.1 h4).1).trans h4⟩;exact (h2 id blk hb).mono none (by simp) (noref_none _) (fun ow ho => hg.block _ (Nat.lt_of_lt_of_le (hsub id ow ho) h1.size)) hg.hh (fun _ _ h => h) (fun _ _ _ => rfl)
end
end Go.Sim
namespace Go.Proofs
open Go.RowKit Go.Shelf
attribute [local go_sem] Oper.semAt_some
end Go.Proofs
namespace Go.Sim
class PureCs (l : List G) : Prop where
 pure : PureL l
instance : PureCs [] := ⟨pureL_nil⟩
instance (c : G) (l : List G) [hc : Pure c] [hl : PureCs l] : PureCs (c :: l) := ⟨fun g hg => by
 rcases List.mem_cons.1 hg with rfl | hg
 ·exact fun _ _ _ _ _ h => hc.pure h
 ·exact hl.pure g hg⟩
theorem fitsT_pure {w w' : World} {M M' : Nat → Prop} : ∀ {l : List G} {vs : List Value}, PureL l → FitsT w M l vs → FitsT w' M' l vs
 | [], [], _, h => h
 | [], _ :: _, _, h => by cases h
 | _ :: _, [], _, h => by cases h
 | c :: l, v :: vs, hp, h => ⟨hp c List.mem_cons_self _ _ _ _ _ h.1, fitsT_pure (fun g hg => hp g (List.mem_cons_of_mem _ hg)) h.2⟩
instance (l : List G) [h : PureCs l] : Pure (.agg l) := ⟨fun ⟨vs, h1, h2⟩ => ⟨vs, h1, Fits.pure h.pure h2⟩⟩
instance (l : List G) [h : PureCs l] : Pure (.tup l) := ⟨fun ⟨vs, h1, h2⟩ => ⟨vs, h1, fitsT_pure h.pure h2⟩⟩
end Go.Sim
set_option maxRecDepth 10000
namespace Go.Sim
open Go.Proofs
def s1141_j1 (rec1 : Nat → (List Int) → Option (List Int)) (k3 : Nat) (x6 : List Int) : Option (List Int) :=
 rec1 (k3 + 1) x6
def s1141_l1 (a0 : S1190) (a1 : Int) : List S1124 → Nat → (List Int) → Option (List Int)
 | [], k3, x1 => some x1
 | y4 :: t5, k3, x1 => bindO (bif decide (((k3 : Nat) : Int) ≠ a1) then ixO a0.turns a1 else some default) fun y7 => (bif (decide (((k3 : Nat) : Int) ≠ a1)) && (s1130 y4 y7 a0.buffer) then s1141_j1 (fun k_ z0_ => s1141_l1 a0 a1 t5 k_ z0_) k3 (x1 ++ [((k3 : Nat) : Int)]) else s1141_j1 (fun k_ z0_ => s1141_l1 a0 a1 t5 k_ z0_) k3 x1)
def s1141 (a0 : S1190) (a1 : Int) : Option (List Int) :=
 s1141_l1 a0 a1 a0.turns 0 []
theorem c1141 {g : List (Nat × List Value)} (a0 : S1190) (a1 : Int) {R : List Int}  (hb : a0.turns.length ≤ 1000) (hR : s1141 a0 a1 = some R) : Con (EG g) 141 [G.agg [G.sl 3 (List.map S1122.c a0.stands), G.sl 5 (List.map S1124.c a0.turns), G.int a0.buffer, G.sl 1 (List.map cInt a0.given)], G.int a1] (G.sl 1 (List.map cInt R)) := by
 unfold s1141 at hR;refine con_of_aw Tryz.func141 rfl rfl fun w0 M0 => ?_;refine aw_seq ?_;refine aw_region [.p, .w] ?_;refine st rfl rfl (eff_box rfl rfl) rfl ?_;refine st_w rfl rfl (eff_nilL 4 3 1 rfl rfl rfl) rfl ?_;refine st_nil ?_;refine aw_seq ?_;refine aw_region [.w] ?_;refine st_w rfl rfl (eff_nilL 5 3 1 rfl rfl rfl) rfl ?_;refine st_nil ?_;refine aw_seq ?_;refine aw_seq ?_;refine aw_region [.p, .p, .p, .p] ?_;refine st rfl rfl (eff_fieldAddr rfl fl1191_1 rfl) rfl ?_;refine st rfl rfl (eff_load rfl ty1023 rfl) rfl ?_;refine st rfl rfl (eff_lenM (f := S1124.c) (l := a0.turns) rfl Tryz.underlying23 rfl) rfl ?_;refine st rfl rfl (eff_moveg rfl rfl) rfl ?_;refine st_nil ?_;refine aw_block ?_;refine aw_loop_g (γ := Nat × (List S1124) × (List Int)) (fun g => ([(1, .g (G.int a1)), (2, .g (G.ref [G.sl 3 (List.map S1122.c a0.stands), G.sl 5 (List.map S1124.c a0.turns), G.int a0.buffer, G.sl 1 (List.map cInt a0.given)])), (5, .osl 5 1 0 (List.length g.2.2)), (9, .g (G.sl 5 (List.map S1124.c a0.turns))), (10, .g (G.int (List.length a0.turns : Int))), (11, .g (G.int ((g.1 : Nat) : Int)))], [(5, .arr 3 1 (List.map cInt g.2.2))])) (fun g => g.2.2.length ≤ g.1 ∧ a0.turns.drop g.1 = g.2.1 ∧ s1141_l1 a0 a1 g.2.1 g.1 g.2.2 = some R) (fun g => List.length g.2.1) ⟨rfl, (0, a0.turns, []), ⟨rfl, rfl, rfl, rfl, rfl, rfl, trivial⟩, ⟨rfl, trivial⟩, rfl, ⟨(by first | (simp; done) | (simp; omega)), rfl, (by exact hR)⟩, trivial⟩ ?_
 ·rintro ⟨k3, t5, x1⟩ ⟨iv1_0, hd, hR⟩;replace hd : a0.turns.drop k3 = t5 := hd;replace hR : s1141_l1 a0 a1 t5 k3 x1 = some R := hR;replace iv1_0 : x1.length ≤ k3 := iv1_0;refine aw_seq ?_;refine aw_region [.p] ?_;refine st rfl rfl (eff_lss rfl rfl rfl) rfl ?_;refine st_nil ?_;refine len_sl (f := S1124.c) (l := a0.turns) 9 rfl fun hlz1 => ?_;refine aw_seq ?_;refine aw_cond _ rfl (fun h1 => ?_) (fun h1 => ?_)
  ·replace h1 : (decide (((k3 : Nat) : Int) < (List.length a0.turns : Int))) = true := h1;obtain ⟨y4, t5, rfl, hx1, hd⟩ := drop_cons hd (decT h1);replace h1 := decT h1;rw [s1141_l1] at hR;(try dsimp only at hR);refine aw_skip ?_;refine aw_cut_g (γ := (List Int)) (fun g => ([(1, .g (G.int a1)), (2, .g (G.ref [G.sl 3 (List.map S1122.c a0.stands), G.sl 5 (List.map S1124.c a0.turns), G.int a0.buffer, G.sl 1 (List.map cInt a0.given)])), (5, .osl 5 1 0 (List.length g)), (9, .g (G.sl 5 (List.map S1124.c a0.turns))), (10, .g (G.int (List.length a0.turns : Int))), (11, .g (G.int ((k3 : Nat) : Int)))], [(5, .arr 3 1 (List.map cInt g))])) (fun g => g.length ≤ k3 + 1 ∧ s1141_j1 (fun k_ z0_ => s1141_l1 a0 a1 t5 k_ z0_) k3 g = some R) ?_ ?_
   ·refine aw_block ?_;refine aw_seq ?_;refine aw_region [.p, .p, .p, .w, .p, .w] ?_;refine st rfl rfl (eff_moveg rfl rfl) rfl ?_;refine st rfl rfl (eff_ix (f := S1124.c) (l := a0.turns) (a := y4) rfl Tryz.underlying23 ty1125 rfl rfl (Int.natCast_nonneg _) hx1) rfl ?_;refine st rfl rfl (eff_loadA rfl ty1125 rfl rfl rfl) rfl ?_;refine st_w rfl rfl (eff_alloc 7 rfl z1125 rfl rfl) rfl ?_;refine st rfl rfl (eff_assigng rfl rfl) rfl ?_;refine st_wn rfl rfl (eff_store (tv := .g (G.agg [G.str y4.Name, G.int y4.Start, G.int y4.End, G.int y4.Size, G.str y4.Terminal])) rfl ty1125 rfl rfl rfl rfl rfl) ?_;refine st_nil ?_;refine aw_seq ?_;obtain ⟨y7, by7, hR⟩ := bindO_inv hR;refine aw_draw [.p, .p, .p, .p, .r, .p, .p, .p, .p, .p, .p, .p, .p, .p] (by kernel_rfl) ?_;refine st rfl rfl (eff_moveg rfl rfl) rfl ?_;refine st rfl rfl (eff_moveg rfl rfl) rfl ?_;refine st rfl rfl (eff_neq rfl rfl rfl) rfl ?_;refine st rfl rfl (eff_moveg rfl rfl) rfl ?_;refine st_gr rfl rfl rfl (gb_bool _ _) (fun h => eff_loadOA rfl ty1125 rfl rfl rfl rfl) rfl ?_;refine st_g rfl rfl rfl (gb_bool _ _) (fun h => eff_fieldAddr rfl fl1191_1 rfl) rfl ?_;refine st_g rfl rfl rfl (gb_bool _ _) (fun h => eff_load rfl ty1023 (gd h rfl)) rfl ?_;refine st_g rfl rfl rfl (gb_bool _ _) (fun h => eff_moveg rfl rfl) rfl ?_;refine st_g rfl rfl rfl (gb_bool _ _) (fun h => eff_ix (f := S1124.c) (l := a0.turns) (a := y7) rfl Tryz.underlying23 ty1125 (gd h rfl) (gd h rfl) (ixO_nn (condT1 by7 h)) (ixO_get (condT1 by7 h))) rfl ?_;refine st_g rfl rfl rfl (gb_bool _ _) (fun h => eff_loadA rfl ty1125 (gd h rfl) rfl rfl) rfl ?_;refine st_g rfl rfl rfl (gb_bool _ _) (fun h => eff_fieldAddr rfl fl1191_2 rfl) rfl ?_;refine st_g rfl rfl rfl (gb_bool _ _) (fun h => eff_load rfl ty3 (gd h rfl)) rfl ?_;refine st_g rfl rfl rfl (gb_bool _ _) (fun h => eff_call rfl K1130 rfl (c1130 y4 y7 a0.buffer) (ag_cons (gd h rfl) (ag_cons (gd h rfl) (ag_cons (gd h rfl) ag_nil)))) rfl ?_;refine st rfl rfl (eff_and rfl rfl rfl rfl) rfl ?_;refine st_nil ?_;refine aw_cond _ rfl (fun h3 => ?_) (fun h3 => ?_)
    ·replace h3 : ((decide (((k3 : Nat) : Int) ≠ a1)) && (s1130 y4 y7 a0.buffer)) = true := h3;replace hR := condT hR h3;(try simp only [Bool.or_eq_true, Bool.and_eq_true, Bool.or_eq_false_iff, Bool.and_eq_false_iff, Bool.not_eq_true', Bool.not_eq_false', decide_eq_true_eq, decide_eq_false_iff_not] at h3);refine aw_region [.p, .p, .p, .k, .p] ?_;refine st rfl rfl (eff_moveO rfl rfl) rfl ?_;refine st rfl rfl (eff_moveg rfl rfl) rfl ?_;refine st rfl rfl (eff_buildSlice rfl Tryz.underlying51 ty3 z3 rfl (ps_cons rfl ps_nil) rfl (by simp []) (by decide)) rfl ?_;refine st_k rfl rfl (eff_appL (f := cInt) (out := x1) (new := [((k3 : Nat) : Int)]) rfl app82 rfl rfl (src_eq rfl (src_sl (by decide) (by simp []))) (refsN rfl) (by simp; omega)) rfl ?_;refine st rfl rfl (eff_assignO rfl rfl) rfl ?_;refine st_nil ?_;exact ⟨rfl, x1 ++ [((k3 : Nat) : Int)], ⟨rfl, rfl, rfl, rfl, rfl, rfl, trivial⟩, ⟨rfl, trivial⟩, rfl, ⟨(by first | omega | (dsimp only; omega) | (simp at *; omega)), hR⟩, trivial⟩
    ·replace h3 : ((decide (((k3 : Nat) : Int) ≠ a1)) && (s1130 y4 y7 a0.buffer)) = false := h3;replace hR := condF hR h3;(try simp only [Bool.or_eq_true, Bool.and_eq_true, Bool.or_eq_false_iff, Bool.and_eq_false_iff, Bool.not_eq_true', Bool.not_eq_false', decide_eq_true_eq, decide_eq_false_iff_not] at h3);refine aw_skip ?_;exact ⟨rfl, x1, ⟨rfl, rfl, rfl, rfl, rfl, rfl, trivial⟩, ⟨rfl, trivial⟩, rfl, ⟨(by first | omega | (dsimp only; omega) | (simp at *; omega)), hR⟩, trivial⟩
   ·rintro x6 ⟨jv1_0, hR⟩;replace jv1_0 : x6.length ≤ k3 + 1 := jv1_0;replace hR : s1141_j1 (fun k_ z0_ => s1141_l1 a0 a1 t5 k_ z0_) k3 x6 = some R := hR;unfold s1141_j1 at hR;refine aw_region [.p, .p] ?_;refine st rfl rfl (eff_add rfl rfl rfl (by unfold I64; omega)) rfl ?_;refine st rfl rfl (eff_moveg rfl rfl) rfl ?_;refine st_nil ?_;exact ⟨rfl, (k3 + 1, t5, x6), ⟨rfl, rfl, rfl, rfl, rfl, rfl, trivial⟩, ⟨rfl, trivial⟩, rfl, ⟨(by first | omega | (dsimp only; omega) | (simp at *; omega)), hd, hR⟩, by simp⟩
  ·replace h1 : (decide (((k3 : Nat) : Int) < (List.length a0.turns : Int))) = false := h1;obtain rfl := drop_nil hd (decF h1);rw [s1141_l1] at hR;refine aw_exit ?_;refine aw_seq ?_;refine aw_region [.p, .p] ?_;refine st rfl rfl (eff_moveO rfl rfl) rfl ?_;refine st rfl rfl (eff_assignO rfl rfl) rfl ?_;refine st_nil ?_;refine aw_ret ?_;obtain rfl := Option.some.inj hR;exact res_c rfl (rv_viewL rfl rfl)
def s1142 (a0 : Int) (a1 : S1190) (a2 : Int) : Option Bool :=
 bindO (ixO a1.given a0) fun y1 => some (decide (y1 = a2))
theorem c1142 {g : List (Nat × List Value)} (a0 : Int) (a1 : S1190) (a2 : Int) {R : Bool}   (hR : s1142 a0 a1 a2 = some R) : Con (EG g) 142 [G.int a0, G.ref [G.sl 3 (List.map S1122.c a1.stands), G.sl 5 (List.map S1124.c a1.turns), G.int a1.buffer, G.sl 1 (List.map cInt a1.given)], G.ref [G.int a2]] (G.bool R) := by
 unfold s1142 at hR;refine con_of_aw Tryz.func142 rfl rfl fun w0 M0 => ?_;refine aw_seq ?_;refine aw_region [.p] ?_;refine st rfl rfl (eff_assigng rfl rfl) rfl ?_;refine st_nil ?_;refine aw_seq ?_;obtain ⟨y1, by1, hR⟩ := bindO_inv hR;refine aw_draw [.p, .p, .p, .p, .p, .p, .p, .p] (by kernel_rfl) ?_;refine st rfl rfl (eff_fieldAddr rfl fl1191_3 rfl) rfl ?_;refine st rfl rfl (eff_load rfl ty82 rfl) rfl ?_;refine st rfl rfl (eff_moveg rfl rfl) rfl ?_;refine st rfl rfl (eff_ix (f := cInt) (l := a1.given) (a := y1) rfl Tryz.underlying51 ty3 rfl rfl (ixO_nn by1) (ixO_get by1)) rfl ?_;refine st rfl rfl (eff_load rfl ty3 rfl) rfl ?_;refine st rfl rfl (eff_load rfl ty3 rfl) rfl ?_;refine st rfl rfl (eff_eql rfl rfl rfl) rfl ?_;refine st rfl rfl (eff_assigng rfl rfl) rfl ?_;refine st_nil ?_;refine aw_ret ?_;obtain rfl := Option.some.inj hR;exact res_c rfl (rv_g rfl)
def s190_l1 (a1 : Int) : List Int → Nat → Int
 | [], k2 => (-1)
 | y3 :: t4, k2 => (bif decide (a1 = y3) then ((k2 : Nat) : Int) else s190_l1 a1 t4 (k2 + 1))
def s190 (a0 : List Int) (a1 : Int) : Int :=
 s190_l1 a1 a0 0
theorem c190 {g : List (Nat × List Value)} (a0 : List Int) (a1 : Int)    : Con (EG g) 171 [G.sl 1 (List.map cInt a0), G.int a1] (G.int (s190 a0 a1)) := by
 generalize hR : s190 a0 a1 = R;unfold s190 at hR;refine con_of_aw Tryz.func171 rfl rfl fun w0 M0 => ?_;refine len_sl (f := cInt) (l := a0) 0 rfl fun hla0 => ?_;refine aw_seq ?_;refine aw_region [.p] ?_;refine st rfl rfl (eff_assigng rfl rfl) rfl ?_;refine st_nil ?_;refine aw_seq ?_;refine aw_seq ?_;refine aw_region [.p, .p, .p] ?_;refine st rfl rfl (eff_moveg rfl rfl) rfl ?_;refine st rfl rfl (eff_lenM (f := cInt) (l := a0) rfl Tryz.underlying51 rfl) rfl ?_;refine st rfl rfl (eff_moveg rfl rfl) rfl ?_;refine st_nil ?_;refine aw_block ?_;refine aw_loop_g (γ := Nat × (List Int)) (fun g => ([(0, .g (G.sl 1 (List.map cInt a0))), (1, .g (G.int a1)), (7, .g (G.int (List.length a0 : Int))), (8, .g (G.int ((g.1 : Nat) : Int)))], [])) (fun g => a0.drop g.1 = g.2 ∧ s190_l1 a1 g.2 g.1 = R) (fun g => List.length g.2) ⟨rfl, (0, a0), ⟨rfl, rfl, rfl, rfl, trivial⟩, trivial, rfl, ⟨rfl, hR⟩, trivial⟩ ?_
 ·rintro ⟨k2, t4⟩ ⟨hd, hR⟩;replace hd : a0.drop k2 = t4 := hd;replace hR : s190_l1 a1 t4 k2 = R := hR;refine aw_seq ?_;refine aw_region [.p] ?_;refine st rfl rfl (eff_lss rfl rfl rfl) rfl ?_;refine st_nil ?_;refine len_sl (f := cInt) (l := a0) 0 rfl fun hlz1 => ?_;refine aw_seq ?_;refine aw_cond _ rfl (fun h1 => ?_) (fun h1 => ?_)
  ·replace h1 : (decide (((k2 : Nat) : Int) < (List.length a0 : Int))) = true := h1;obtain ⟨y3, t4, rfl, hx1, hd⟩ := drop_cons hd (decT h1);replace h1 := decT h1;rw [s190_l1] at hR;(try dsimp only at hR);refine aw_skip ?_;refine aw_seq ?_;refine aw_block ?_;refine aw_seq ?_;refine aw_region [.p, .p] ?_;refine st rfl rfl (eff_moveg rfl rfl) rfl ?_;refine st rfl rfl (eff_assigng rfl rfl) rfl ?_;refine st_nil ?_;refine aw_seq ?_;refine aw_region [.p, .p, .p, .p, .p, .p] ?_;refine st rfl rfl (eff_moveg rfl rfl) rfl ?_;refine st rfl rfl (eff_moveg rfl rfl) rfl ?_;refine st rfl rfl (eff_moveg rfl rfl) rfl ?_;refine st rfl rfl (eff_ix (f := cInt) (l := a0) (a := y3) rfl Tryz.underlying51 ty3 rfl rfl (Int.natCast_nonneg _) hx1) rfl ?_;refine st rfl rfl (eff_load rfl ty3 rfl) rfl ?_;refine st rfl rfl (eff_eql rfl rfl rfl) rfl ?_;refine st_nil ?_;refine aw_cond _ rfl (fun h3 => ?_) (fun h3 => ?_)
   ·replace h3 : (decide (a1 = y3)) = true := h3;replace hR := condT hR h3;(try simp only [Bool.or_eq_true, Bool.and_eq_true, Bool.or_eq_false_iff, Bool.and_eq_false_iff, Bool.not_eq_true', Bool.not_eq_false', decide_eq_true_eq, decide_eq_false_iff_not] at h3);refine aw_seq ?_;refine aw_region [.p, .p] ?_;refine st rfl rfl (eff_moveg rfl rfl) rfl ?_;refine st rfl rfl (eff_assigng rfl rfl) rfl ?_;refine st_nil ?_;refine aw_ret ?_;subst hR;exact res_c rfl (rv_g rfl)
   ·replace h3 : (decide (a1 = y3)) = false := h3;replace hR := condF hR h3;(try simp only [Bool.or_eq_true, Bool.and_eq_true, Bool.or_eq_false_iff, Bool.and_eq_false_iff, Bool.not_eq_true', Bool.not_eq_false', decide_eq_true_eq, decide_eq_false_iff_not] at h3);refine aw_skip ?_;refine aw_region [.p, .p] ?_;refine st rfl rfl (eff_add rfl rfl rfl (by unfold I64; omega)) rfl ?_;refine st rfl rfl (eff_moveg rfl rfl) rfl ?_;refine st_nil ?_;exact ⟨rfl, (k2 + 1, t4), ⟨rfl, rfl, rfl, rfl, trivial⟩, trivial, rfl, ⟨hd, hR⟩, by simp⟩
  ·replace h1 : (decide (((k2 : Nat) : Int) < (List.length a0 : Int))) = false := h1;obtain rfl := drop_nil hd (decF h1);rw [s190_l1] at hR;refine aw_exit ?_;refine aw_seq ?_;refine aw_region [.p] ?_;refine st rfl rfl (eff_assigng rfl rfl) rfl ?_;refine st_nil ?_;refine aw_ret ?_;subst hR;exact res_c rfl (rv_g rfl)
def s144 (a0 : List Int) (a1 : Int) : Bool :=
 decide (0 ≤ (s190 a0 a1))
theorem c144 {g : List (Nat × List Value)} (a0 : List Int) (a1 : Int)    : Con (EG g) 143 [G.sl 1 (List.map cInt a0), G.int a1] (G.bool (s144 a0 a1)) := by
 generalize hR : s144 a0 a1 = R;unfold s144 at hR;refine con_of_aw Tryz.func143 rfl rfl fun w0 M0 => ?_;refine len_sl (f := cInt) (l := a0) 0 rfl fun hla0 => ?_;refine aw_seq ?_;refine aw_region [.p] ?_;refine st rfl rfl (eff_assigng rfl rfl) rfl ?_;refine st_nil ?_;refine aw_seq ?_;refine aw_region [.p, .p, .p, .p, .p] ?_;refine st rfl rfl (eff_moveg rfl rfl) rfl ?_;refine st rfl rfl (eff_moveg rfl rfl) rfl ?_;refine st rfl rfl (eff_call rfl K190 rfl (c190 a0 a1) (ag_cons rfl (ag_cons rfl ag_nil))) rfl ?_;refine st rfl rfl (eff_geq rfl rfl rfl) rfl ?_;refine st rfl rfl (eff_assigng rfl rfl) rfl ?_;refine st_nil ?_;refine aw_ret ?_;subst hR;exact res_c rfl (rv_g rfl)
def s1037_l1 (self : (List S1122) → (List S1124) → Int → (List Int) → Option ((List Int) × Bool)) (a0 : List S1122) (a1 : List S1124) (a2 : Int) (a3 : List Int) : List S1122 → Nat → Option ((List Int) × Bool)
 | [], k3 => some ([], false)
 | y4 :: t5, k3 => bindO (self a0 a1 a2 (([] ++ a3) ++ [((k3 : Nat) : Int)])) fun r6 => (bif r6.2 then some (r6.1, true) else s1037_l1 self a0 a1 a2 a3 t5 (k3 + 1))
def s1037 : Nat → (List S1122) → (List S1124) → Int → (List Int) → Option ((List Int) × Bool)
 | 0, _, _, _, _ => none
 | kf_ + 1, a0, a1, a2, a3 => bindO (s1036 a0 (List.take (Int.toNat (List.length a3 : Int)) a1) a2 a3) fun r1 => (bif decide (r1 ≠ 0) then some ([], false) else (bif decide ((List.length a3 : Int) = (List.length a1 : Int)) then some (a3, true) else s1037_l1 (fun z0_ z1_ z2_ z3_ => s1037 kf_ z0_ z1_ z2_ z3_) a0 a1 a2 a3 a0 0))
theorem c1037 {g : List (Nat × List Value)} (kf_ : Nat) : ∀ (a0 : List S1122) (a1 : List S1124) (a2 : Int) (a3 : List Int) {R : (List Int) × Bool}  (hbe : a3.length ≤ a1.length) (hbl : a1.length ≤ 1000) (hR : s1037 kf_ a0 a1 a2 a3 = some R), Con (EG g) 37 [G.sl 3 (List.map S1122.c a0), G.sl 5 (List.map S1124.c a1), G.int a2, G.sl 1 (List.map cInt a3)] (G.tup [G.sl 1 (List.map cInt R.1), G.bool R.2]) := by
 induction kf_ with
 | zero => intro a0 a1 a2 a3 R hbe hbl hR; rw [s1037] at hR; cases hR
 | succ kf_ ih =>
 intro a0 a1 a2 a3 R hbe hbl hR;rw [s1037] at hR;(try dsimp only at hR);refine con_of_aw Tryz.func37 rfl rfl fun w0 M0 => ?_;refine len_sl (f := S1122.c) (l := a0) 0 rfl fun hla0 => ?_;refine len_sl (f := S1124.c) (l := a1) 1 rfl fun hla1 => ?_;refine len_sl (f := cInt) (l := a3) 3 rfl fun hla3 => ?_;refine aw_seq ?_;refine aw_region [.p, .p] ?_;refine st rfl rfl (eff_assigng rfl rfl) rfl ?_;refine st rfl rfl (eff_assigng rfl rfl) rfl ?_;refine st_nil ?_;refine aw_seq ?_;refine aw_seq ?_;obtain ⟨r1, br1, hR⟩ := bindO_inv hR;refine aw_region [.p, .p, .p, .p, .p, .p, .p, .p, .p] ?_;refine st rfl rfl (eff_moveg rfl rfl) rfl ?_;refine st rfl rfl (eff_moveg rfl rfl) rfl ?_;refine st rfl rfl (eff_moveg rfl rfl) rfl ?_;refine st rfl rfl (eff_lenM (f := cInt) (l := a3) rfl Tryz.underlying51 rfl) rfl ?_;refine st rfl rfl (eff_slG (f := S1124.c) (l := a1) rfl Tryz.underlying33 ty1134 rfl bnd_none (bnd_some rfl (Int.natCast_nonneg _)) (Nat.zero_le _) (by simp; omega)) rfl ?_;refine st rfl rfl (eff_moveg rfl rfl) rfl ?_;refine st rfl rfl (eff_moveg rfl rfl) rfl ?_;refine st rfl rfl (eff_call rfl K1036 rfl (c1036 a0 (List.take (Int.toNat (List.length a3 : Int)) a1) a2 a3 br1) (ag_cons rfl (ag_cons rfl (ag_cons rfl (ag_cons rfl ag_nil))))) rfl ?_;refine st rfl rfl (eff_neq rfl rfl rfl) rfl ?_;refine st_nil ?_;refine aw_cond _ rfl (fun h1 => ?_) (fun h1 => ?_)
 ·replace h1 : (decide (r1 ≠ 0)) = true := h1;replace hR := condT hR h1;(try simp only [Bool.or_eq_true, Bool.and_eq_true, Bool.or_eq_false_iff, Bool.and_eq_false_iff, Bool.not_eq_true', Bool.not_eq_false', decide_eq_true_eq, decide_eq_false_iff_not] at h1);refine aw_seq ?_;refine aw_region [.p, .p] ?_;refine st rfl rfl (eff_assigng rfl rfl) rfl ?_;refine st rfl rfl (eff_assigng rfl rfl) rfl ?_;refine st_nil ?_;refine aw_ret ?_;obtain rfl := Option.some.inj hR;exact resN rfl ⟨rv_nilG rfl (nil_sl _), rv_g rfl, trivial⟩ (by simp)
 ·replace h1 : (decide (r1 ≠ 0)) = false := h1;replace hR := condF hR h1;(try simp only [Bool.or_eq_true, Bool.and_eq_true, Bool.or_eq_false_iff, Bool.and_eq_false_iff, Bool.not_eq_true', Bool.not_eq_false', decide_eq_true_eq, decide_eq_false_iff_not] at h1);refine aw_skip ?_;refine aw_seq ?_;refine aw_seq ?_;refine aw_region [.p, .p, .p, .p, .p] ?_;refine st rfl rfl (eff_moveg rfl rfl) rfl ?_;refine st rfl rfl (eff_lenM (f := cInt) (l := a3) rfl Tryz.underlying51 rfl) rfl ?_;refine st rfl rfl (eff_moveg rfl rfl) rfl ?_;refine st rfl rfl (eff_lenM (f := S1124.c) (l := a1) rfl Tryz.underlying33 rfl) rfl ?_;refine st rfl rfl (eff_eql rfl rfl rfl) rfl ?_;refine st_nil ?_;refine aw_cond _ rfl (fun h2 => ?_) (fun h2 => ?_)
  ·replace h2 : (decide ((List.length a3 : Int) = (List.length a1 : Int))) = true := h2;replace hR := condT hR h2;(try simp only [Bool.or_eq_true, Bool.and_eq_true, Bool.or_eq_false_iff, Bool.and_eq_false_iff, Bool.not_eq_true', Bool.not_eq_false', decide_eq_true_eq, decide_eq_false_iff_not] at h2);refine aw_seq ?_;refine aw_region [.p, .p, .p] ?_;refine st rfl rfl (eff_moveg rfl rfl) rfl ?_;refine st rfl rfl (eff_assigng rfl rfl) rfl ?_;refine st rfl rfl (eff_assigng rfl rfl) rfl ?_;refine st_nil ?_;refine aw_ret ?_;obtain rfl := Option.some.inj hR;exact resN rfl ⟨rv_g rfl, rv_g rfl, trivial⟩ (by simp)
  ·replace h2 : (decide ((List.length a3 : Int) = (List.length a1 : Int))) = false := h2;replace hR := condF hR h2;(try simp only [Bool.or_eq_true, Bool.and_eq_true, Bool.or_eq_false_iff, Bool.and_eq_false_iff, Bool.not_eq_true', Bool.not_eq_false', decide_eq_true_eq, decide_eq_false_iff_not] at h2);refine aw_skip ?_;refine aw_seq ?_;refine aw_seq ?_;refine aw_region [.p] ?_;refine st rfl rfl (eff_assigng rfl rfl) rfl ?_;refine st_nil ?_;refine aw_block ?_;refine aw_loop_g (γ := Nat × (List S1122)) (fun g => ([(0, .g (G.sl 3 (List.map S1122.c a0))), (1, .g (G.sl 5 (List.map S1124.c a1))), (2, .g (G.int a2)), (3, .g (G.sl 1 (List.map cInt a3))), (10, .g (G.int ((g.1 : Nat) : Int)))], [])) (fun g => a0.drop g.1 = g.2 ∧ s1037_l1 (fun z0_ z1_ z2_ z3_ => s1037 kf_ z0_ z1_ z2_ z3_) a0 a1 a2 a3 g.2 g.1 = some R) (fun g => List.length g.2) ⟨rfl, (0, a0), ⟨rfl, rfl, rfl, rfl, rfl, trivial⟩, trivial, rfl, ⟨rfl, (by exact hR)⟩, trivial⟩ ?_
   ·rintro ⟨k3, t5⟩ ⟨hd, hR⟩;replace hd : a0.drop k3 = t5 := hd;replace hR : s1037_l1 (fun z0_ z1_ z2_ z3_ => s1037 kf_ z0_ z1_ z2_ z3_) a0 a1 a2 a3 t5 k3 = some R := hR;refine aw_seq ?_;refine aw_seq ?_;refine aw_region [.p, .p, .p, .p] ?_;refine st rfl rfl (eff_moveg rfl rfl) rfl ?_;refine st rfl rfl (eff_moveg rfl rfl) rfl ?_;refine st rfl rfl (eff_lenM (f := S1122.c) (l := a0) rfl Tryz.underlying30 rfl) rfl ?_;refine st rfl rfl (eff_lss rfl rfl rfl) rfl ?_;refine st_nil ?_;refine len_sl (f := S1122.c) (l := a0) 0 rfl fun hlz1 => ?_;refine aw_cond _ rfl (fun h3 => ?_) (fun h3 => ?_)
    ·replace h3 : (decide (((k3 : Nat) : Int) < (List.length a0 : Int))) = true := h3;obtain ⟨y4, t5, rfl, hx1, hd⟩ := drop_cons hd (decT h3);replace h3 := decT h3;rw [s1037_l1] at hR;(try dsimp only at hR);refine aw_skip ?_;refine aw_seq ?_;refine aw_block ?_;refine aw_seq ?_;obtain ⟨r6, br6, hR⟩ := bindO_inv hR;refine aw_region [.p, .p, .p, .w, .p, .k, .p, .p, .k, .k, .p, .p, .p, .p, .p] ?_;refine st rfl rfl (eff_moveg rfl rfl) rfl ?_;refine st rfl rfl (eff_moveg rfl rfl) rfl ?_;refine st rfl rfl (eff_moveg rfl rfl) rfl ?_;refine st_w rfl rfl (eff_buildSO (xs := List.map cInt []) 38 rfl Tryz.underlying51 ty3 z3 rfl ps_nil rfl (by simp []) (by decide) rfl) rfl ?_;refine st rfl rfl (eff_moveg rfl rfl) rfl ?_;refine st_k rfl rfl (eff_appL (f := cInt) (out := []) (new := a3) rfl app82 rfl rfl (src_eq rfl (src_sl (by decide) (by simp []))) (refsN rfl) (by simp; omega)) rfl ?_;refine st rfl rfl (eff_moveg rfl rfl) rfl ?_;refine st rfl rfl (eff_buildSlice rfl Tryz.underlying51 ty3 z3 rfl (ps_cons rfl ps_nil) rfl (by simp []) (by decide)) rfl ?_;refine st_k rfl rfl (eff_appL (f := cInt) (out := [] ++ a3) (new := [((k3 : Nat) : Int)]) rfl app82 rfl rfl (src_eq rfl (src_sl (by decide) (by simp []))) (refsN rfl) (by simp; omega)) rfl ?_;refine st_k rfl rfl (eff_callF (xs := List.map cInt (([] ++ a3) ++ [((k3 : Nat) : Int)])) 38 rfl K1037 rfl (ih a0 a1 a2 (([] ++ a3) ++ [((k3 : Nat) : Int)]) (by simp; omega) hbl br6) (agf_cons rfl (agf_cons rfl (agf_cons rfl (agf_osl rfl rfl agf_nil)))) rfl (refsN rfl)) rfl ?_;refine st rfl rfl (eff_moveg rfl rfl) rfl ?_;refine st rfl rfl (eff_extract rfl rfl rfl) rfl ?_;refine st rfl rfl (eff_extract rfl rfl rfl) rfl ?_;refine st rfl rfl (eff_assigng rfl rfl) rfl ?_;refine st rfl rfl (eff_assigng rfl rfl) rfl ?_;refine st_nil ?_;refine aw_seq ?_;refine aw_region [.p] ?_;refine st rfl rfl (eff_moveg rfl rfl) rfl ?_;refine st_nil ?_;refine aw_cond _ rfl (fun h5 => ?_) (fun h5 => ?_)
     ·replace h5 : (r6.2) = true := h5;replace hR := condT hR h5;(try simp only [Bool.or_eq_true, Bool.and_eq_true, Bool.or_eq_false_iff, Bool.and_eq_false_iff, Bool.not_eq_true', Bool.not_eq_false', decide_eq_true_eq, decide_eq_false_iff_not] at h5);refine aw_seq ?_;refine aw_region [.p, .p, .p] ?_;refine st rfl rfl (eff_moveg rfl rfl) rfl ?_;refine st rfl rfl (eff_assigng rfl rfl) rfl ?_;refine st rfl rfl (eff_assigng rfl rfl) rfl ?_;refine st_nil ?_;refine aw_ret ?_;obtain rfl := Option.some.inj hR;exact resN rfl ⟨rv_g rfl, rv_g rfl, trivial⟩ (by simp)
     ·replace h5 : (r6.2) = false := h5;replace hR := condF hR h5;(try simp only [Bool.or_eq_true, Bool.and_eq_true, Bool.or_eq_false_iff, Bool.and_eq_false_iff, Bool.not_eq_true', Bool.not_eq_false', decide_eq_true_eq, decide_eq_false_iff_not] at h5);refine aw_skip ?_;refine aw_region [.p, .p, .p] ?_;refine st rfl rfl (eff_moveg rfl rfl) rfl ?_;refine st rfl rfl (eff_add rfl rfl rfl (by unfold I64; omega)) rfl ?_;refine st rfl rfl (eff_assigng rfl rfl) rfl ?_;refine st_nil ?_;exact ⟨rfl, (k3 + 1, t5), ⟨rfl, rfl, rfl, rfl, rfl, trivial⟩, trivial, rfl, ⟨hd, hR⟩, by simp⟩
    ·replace h3 : (decide (((k3 : Nat) : Int) < (List.length a0 : Int))) = false := h3;obtain rfl := drop_nil hd (decF h3);rw [s1037_l1] at hR;refine aw_exit ?_;refine aw_seq ?_;refine aw_region [.p, .p] ?_;refine st rfl rfl (eff_assigng rfl rfl) rfl ?_;refine st rfl rfl (eff_assigng rfl rfl) rfl ?_;refine st_nil ?_;refine aw_ret ?_;obtain rfl := Option.some.inj hR;exact resN rfl ⟨rv_nilG rfl (nil_sl _), rv_g rfl, trivial⟩ (by simp)
end Go.Sim
set_option maxRecDepth 10000
namespace Go.Sim
open Go.Proofs
def s1170p_l1 (a1 : Int → Option Bool) : List Int → Nat → Option Int
 | [], k2 => some (-1)
 | y3 :: t4, k2 => bindO (a1 y3) fun r5 => (bif r5 then some ((k2 : Nat) : Int) else s1170p_l1 a1 t4 (k2 + 1))
def s1170p (a0 : List Int) (a1 : Int → Option Bool) : Option Int :=
 s1170p_l1 a1 a0 0
theorem c1170p {g : List (Nat × List Value)} (a0 : List Int) (a1 : Int → Option Bool) {R : Int} {ca1 : G} {ia1 : FuncId} {ka1 : List G} (ha1 : FnIs ca1 ia1 ka1) (Ka1 : Known Tryz.prog ia1) (Ha1 : ∀ (x0 : Int) (r : Bool), a1 x0 = some r → Con (EG g) ia1 ([G.int x0] ++ ka1) (G.bool r))  (hR : s1170p a0 a1 = some R) : Con (EG g) 170 [G.sl 1 (List.map cInt a0), ca1] (G.int R) := by
 unfold s1170p at hR;refine con_of_aw Tryz.func170 rfl rfl fun w0 M0 => ?_;refine len_sl (f := cInt) (l := a0) 0 rfl fun hla0 => ?_;refine aw_seq ?_;refine aw_region [.p] ?_;refine st rfl rfl (eff_assigng rfl rfl) rfl ?_;refine st_nil ?_;refine aw_seq ?_;refine aw_seq ?_;refine aw_region [.p, .p, .p] ?_;refine st rfl rfl (eff_moveg rfl rfl) rfl ?_;refine st rfl rfl (eff_lenM (f := cInt) (l := a0) rfl Tryz.underlying51 rfl) rfl ?_;refine st rfl rfl (eff_moveg rfl rfl) rfl ?_;refine st_nil ?_;refine aw_block ?_;refine aw_loop_g (γ := Nat × (List Int)) (fun g => ([(0, .g (G.sl 1 (List.map cInt a0))), (1, .g (ca1)), (7, .g (G.int (List.length a0 : Int))), (8, .g (G.int ((g.1 : Nat) : Int)))], [])) (fun g => a0.drop g.1 = g.2 ∧ s1170p_l1 a1 g.2 g.1 = some R) (fun g => List.length g.2) ⟨rfl, (0, a0), ⟨rfl, rfl, rfl, rfl, trivial⟩, trivial, rfl, ⟨rfl, hR⟩, trivial⟩ ?_
 ·rintro ⟨k2, t4⟩ ⟨hd, hR⟩;replace hd : a0.drop k2 = t4 := hd;replace hR : s1170p_l1 a1 t4 k2 = some R := hR;refine aw_seq ?_;refine aw_region [.p] ?_;refine st rfl rfl (eff_lss rfl rfl rfl) rfl ?_;refine st_nil ?_;refine len_sl (f := cInt) (l := a0) 0 rfl fun hlz1 => ?_;refine aw_seq ?_;refine aw_cond _ rfl (fun h1 => ?_) (fun h1 => ?_)
  ·replace h1 : (decide (((k2 : Nat) : Int) < (List.length a0 : Int))) = true := h1;obtain ⟨y3, t4, rfl, hx1, hd⟩ := drop_cons hd (decT h1);replace h1 := decT h1;rw [s1170p_l1] at hR;(try dsimp only at hR);refine aw_skip ?_;refine aw_seq ?_;refine aw_block ?_;refine aw_seq ?_;refine aw_region [.p, .p] ?_;refine st rfl rfl (eff_moveg rfl rfl) rfl ?_;refine st rfl rfl (eff_assigng rfl rfl) rfl ?_;refine st_nil ?_;refine aw_seq ?_;obtain ⟨r5, br5, hR⟩ := bindO_inv hR;refine aw_region [.p, .p, .p, .p, .p, .p] ?_;refine st rfl rfl (eff_moveg rfl rfl) rfl ?_;refine st rfl rfl (eff_moveg rfl rfl) rfl ?_;refine st rfl rfl (eff_moveg rfl rfl) rfl ?_;refine st rfl rfl (eff_ix (f := cInt) (l := a0) (a := y3) rfl Tryz.underlying51 ty3 rfl rfl (Int.natCast_nonneg _) hx1) rfl ?_;refine st rfl rfl (eff_load rfl ty3 rfl) rfl ?_;refine st rfl rfl (eff_callf rfl ha1 Ka1 rfl (Ha1 y3 _ br5) (ag_cons rfl ag_nil)) rfl ?_;refine st_nil ?_;refine aw_cond _ rfl (fun h3 => ?_) (fun h3 => ?_)
   ·replace h3 : (r5) = true := h3;replace hR := condT hR h3;(try simp only [Bool.or_eq_true, Bool.and_eq_true, Bool.or_eq_false_iff, Bool.and_eq_false_iff, Bool.not_eq_true', Bool.not_eq_false', decide_eq_true_eq, decide_eq_false_iff_not] at h3);refine aw_seq ?_;refine aw_region [.p, .p] ?_;refine st rfl rfl (eff_moveg rfl rfl) rfl ?_;refine st rfl rfl (eff_assigng rfl rfl) rfl ?_;refine st_nil ?_;refine aw_ret ?_;obtain rfl := Option.some.inj hR;exact res_c rfl (rv_g rfl)
   ·replace h3 : (r5) = false := h3;replace hR := condF hR h3;(try simp only [Bool.or_eq_true, Bool.and_eq_true, Bool.or_eq_false_iff, Bool.and_eq_false_iff, Bool.not_eq_true', Bool.not_eq_false', decide_eq_true_eq, decide_eq_false_iff_not] at h3);refine aw_skip ?_;refine aw_region [.p, .p] ?_;refine st rfl rfl (eff_add rfl rfl rfl (by unfold I64; omega)) rfl ?_;refine st rfl rfl (eff_moveg rfl rfl) rfl ?_;refine st_nil ?_;exact ⟨rfl, (k2 + 1, t4), ⟨rfl, rfl, rfl, rfl, trivial⟩, trivial, rfl, ⟨hd, hR⟩, by simp⟩
  ·replace h1 : (decide (((k2 : Nat) : Int) < (List.length a0 : Int))) = false := h1;obtain rfl := drop_nil hd (decF h1);rw [s1170p_l1] at hR;refine aw_exit ?_;refine aw_seq ?_;refine aw_region [.p] ?_;refine st rfl rfl (eff_assigng rfl rfl) rfl ?_;refine st_nil ?_;refine aw_ret ?_;obtain rfl := Option.some.inj hR;exact res_c rfl (rv_g rfl)
def s1140p (a0 : List Int) (a1 : Int → Option Bool) : Option Bool :=
 bindO (s1170p a0 a1) fun r1 => some (decide (0 ≤ r1))
theorem c1140p {g : List (Nat × List Value)} (a0 : List Int) (a1 : Int → Option Bool) {R : Bool} {ca1 : G} {ia1 : FuncId} {ka1 : List G} (ha1 : FnIs ca1 ia1 ka1) (Ka1 : Known Tryz.prog ia1) (Ha1 : ∀ (x0 : Int) (r : Bool), a1 x0 = some r → Con (EG g) ia1 ([G.int x0] ++ ka1) (G.bool r))  (hR : s1140p a0 a1 = some R) : Con (EG g) 140 [G.sl 1 (List.map cInt a0), ca1] (G.bool R) := by
 unfold s1140p at hR;refine con_of_aw Tryz.func140 rfl rfl fun w0 M0 => ?_;refine len_sl (f := cInt) (l := a0) 0 rfl fun hla0 => ?_;refine aw_seq ?_;refine aw_region [.p] ?_;refine st rfl rfl (eff_assigng rfl rfl) rfl ?_;refine st_nil ?_;refine aw_seq ?_;obtain ⟨r1, br1, hR⟩ := bindO_inv hR;refine aw_region [.p, .p, .p, .p, .p] ?_;refine st rfl rfl (eff_moveg rfl rfl) rfl ?_;refine st rfl rfl (eff_moveg rfl rfl) rfl ?_;refine st rfl rfl (eff_call rfl K1170 rfl (c1170p a0 a1 ha1 Ka1 Ha1 br1) (ag_cons rfl (ag_cons rfl ag_nil))) rfl ?_;refine st rfl rfl (eff_geq rfl rfl rfl) rfl ?_;refine st rfl rfl (eff_assigng rfl rfl) rfl ?_;refine st_nil ?_;refine aw_ret ?_;obtain rfl := Option.some.inj hR;exact res_c rfl (rv_g rfl)
end Go.Sim
set_option maxRecDepth 10000
namespace Go.Sim
open Go.Proofs
def s1107_j1 (rec1 : Nat → (List Int) → Option (List Int)) (k3 : Nat) (x6 : List Int) : Option (List Int) :=
 rec1 (k3 + 1) x6
def s1107_l1 (a0 : S1190) (a1 : Int) : List S1122 → Nat → (List Int) → Option (List Int)
 | [], k3, x1 => some x1
 | y4 :: t5, k3, x1 => bindO (s1141 a0 a1) fun r7 => bindO (s1140p r7 (fun x0 => s1142 x0 a0 ((k3 : Nat) : Int))) fun r8 => bindO (ixO a0.turns a1) fun y9 => (bif (s1128 y9 y4) && (!r8) then s1107_j1 (fun k_ z0_ => s1107_l1 a0 a1 t5 k_ z0_) k3 (x1 ++ [((k3 : Nat) : Int)]) else s1107_j1 (fun k_ z0_ => s1107_l1 a0 a1 t5 k_ z0_) k3 x1)
def s1107 (a0 : S1190) (a1 : Int) : Option (List Int) :=
 s1107_l1 a0 a1 a0.stands 0 []
theorem c1107 {g : List (Nat × List Value)} (a0 : S1190) (a1 : Int) {R : List Int}  (hb : a0.turns.length ≤ 1000) (hb2 : a0.stands.length ≤ 1000) (hR : s1107 a0 a1 = some R) : Con (EG g) 107 [G.agg [G.sl 3 (List.map S1122.c a0.stands), G.sl 5 (List.map S1124.c a0.turns), G.int a0.buffer, G.sl 1 (List.map cInt a0.given)], G.int a1] (G.sl 1 (List.map cInt R)) := by
 unfold s1107 at hR;refine con_of_aw Tryz.func107 rfl rfl fun w0 M0 => ?_;refine aw_seq ?_;refine aw_region [.p, .w] ?_;refine st rfl rfl (eff_box rfl rfl) rfl ?_;refine st_w rfl rfl (eff_nilL 4 3 1 rfl rfl rfl) rfl ?_;refine st_nil ?_;refine aw_seq ?_;refine aw_region [.w] ?_;refine st_w rfl rfl (eff_nilL 5 3 1 rfl rfl rfl) rfl ?_;refine st_nil ?_;refine aw_seq ?_;refine aw_seq ?_;refine aw_region [.p, .p, .p, .p] ?_;refine st rfl rfl (eff_fieldAddr rfl fl1191_0 rfl) rfl ?_;refine st rfl rfl (eff_load rfl ty1022 rfl) rfl ?_;refine st rfl rfl (eff_lenM (f := S1122.c) (l := a0.stands) rfl Tryz.underlying22 rfl) rfl ?_;refine st rfl rfl (eff_moveg rfl rfl) rfl ?_;refine st_nil ?_;refine aw_block ?_;refine aw_loop_g (γ := Nat × (List S1122) × (List Int)) (fun g => ([(1, .g (G.int a1)), (2, .g (G.ref [G.sl 3 (List.map S1122.c a0.stands), G.sl 5 (List.map S1124.c a0.turns), G.int a0.buffer, G.sl 1 (List.map cInt a0.given)])), (5, .osl 5 1 0 (List.length g.2.2)), (10, .g (G.int (List.length a0.stands : Int))), (11, .g (G.int ((g.1 : Nat) : Int)))], [(5, .arr 3 1 (List.map cInt g.2.2))])) (fun g => g.2.2.length ≤ g.1 ∧ a0.stands.drop g.1 = g.2.1 ∧ s1107_l1 a0 a1 g.2.1 g.1 g.2.2 = some R) (fun g => List.length g.2.1) ⟨rfl, (0, a0.stands, []), ⟨rfl, rfl, rfl, rfl, rfl, trivial⟩, ⟨rfl, trivial⟩, rfl, ⟨(by first | (simp; done) | (simp; omega)), rfl, (by exact hR)⟩, trivial⟩ ?_
 ·rintro ⟨k3, t5, x1⟩ ⟨iv1_0, hd, hR⟩;replace hd : a0.stands.drop k3 = t5 := hd;replace hR : s1107_l1 a0 a1 t5 k3 x1 = some R := hR;replace iv1_0 : x1.length ≤ k3 := iv1_0;refine aw_seq ?_;refine aw_region [.p] ?_;refine st rfl rfl (eff_lss rfl rfl rfl) rfl ?_;refine st_nil ?_;refine aw_seq ?_;refine aw_cond _ rfl (fun h1 => ?_) (fun h1 => ?_)
  ·replace h1 : (decide (((k3 : Nat) : Int) < (List.length a0.stands : Int))) = true := h1;obtain ⟨y4, t5, rfl, hx1, hd⟩ := drop_cons hd (decT h1);replace h1 := decT h1;rw [s1107_l1] at hR;(try dsimp only at hR);refine aw_skip ?_;refine aw_cut_g (γ := (List Int)) (fun g => ([(1, .g (G.int a1)), (2, .g (G.ref [G.sl 3 (List.map S1122.c a0.stands), G.sl 5 (List.map S1124.c a0.turns), G.int a0.buffer, G.sl 1 (List.map cInt a0.given)])), (5, .osl 5 1 0 (List.length g)), (10, .g (G.int (List.length a0.stands : Int))), (11, .g (G.int ((k3 : Nat) : Int)))], [(5, .arr 3 1 (List.map cInt g))])) (fun g => g.length ≤ k3 + 1 ∧ s1107_j1 (fun k_ z0_ => s1107_l1 a0 a1 t5 k_ z0_) k3 g = some R) ?_ ?_
   ·refine aw_block ?_;refine aw_seq ?_;refine aw_region [.p, .w, .w] ?_;refine st rfl rfl (eff_moveg rfl rfl) rfl ?_;refine st_w rfl rfl (eff_alloc 6 rfl z3 rfl rfl) rfl ?_;refine st_wn rfl rfl (eff_store (tv := .g (G.int ((k3 : Nat) : Int))) rfl ty3 rfl rfl rfl rfl rfl) ?_;refine st_nil ?_;refine aw_seq ?_;refine aw_freeze (l := [(1, .g (G.int a1)), (2, .g (G.ref [G.sl 3 (List.map S1122.c a0.stands), G.sl 5 (List.map S1124.c a0.turns), G.int a0.buffer, G.sl 1 (List.map cInt a0.given)])), (5, .osl 5 1 0 (List.length x1)), (6, .g (G.ref [G.int ((k3 : Nat) : Int)])), (10, .g (G.int (List.length a0.stands : Int))), (11, .g (G.int ((k3 : Nat) : Int)))]) (m := [(5, .arr 3 1 (List.map cInt x1))]) 6 rfl ⟨.inl ⟨rfl, rfl⟩, .inl ⟨rfl, rfl⟩, .inl ⟨rfl, rfl⟩, .inr (frz_box rfl), .inl ⟨rfl, rfl⟩, .inl ⟨rfl, rfl⟩, trivial⟩ ⟨rfl, trivial⟩ rfl rfl ?_;obtain ⟨r7, br7, hR⟩ := bindO_inv hR;obtain ⟨r8, br8, hR⟩ := bindO_inv hR;refine aw_region [.p, .p, .p, .p, .p, .p] ?_;refine st rfl rfl (eff_loadA rfl ty1191 rfl rfl rfl) rfl ?_;refine st rfl rfl (eff_moveg rfl rfl) rfl ?_;refine st rfl rfl (eff_call rfl K1141 rfl (c1141 a0 a1 (by first | assumption | omega | (simp [copyL_len]; done) | (simp [copyL_len]; omega)) br7) (ag_cons rfl (ag_cons rfl ag_nil))) rfl ?_;refine st rfl rfl (eff_makeF rfl rfl rfl) rfl ?_;refine st rfl rfl (eff_call rfl K1140 rfl (c1140p r7 (fun x0 => s1142 x0 a0 ((k3 : Nat) : Int)) fnis_fn K1142 (fun x0 r_ h_ => c1142 x0 a0 ((k3 : Nat) : Int) h_) br8) (ag_cons rfl (ag_cons rfl ag_nil))) rfl ?_;refine st rfl rfl (eff_assigng rfl rfl) rfl ?_;refine st_nil ?_;refine aw_seq ?_;obtain ⟨y9, by9, hR⟩ := bindO_inv hR;refine aw_draw [.p, .p, .p, .p, .p, .p, .p, .p, .p, .p, .p, .p, .p, .p, .p] (by kernel_rfl) ?_;refine st rfl rfl (eff_fieldAddr rfl fl1191_1 rfl) rfl ?_;refine st rfl rfl (eff_load rfl ty1023 rfl) rfl ?_;refine st rfl rfl (eff_moveg rfl rfl) rfl ?_;refine st rfl rfl (eff_ix (f := S1124.c) (l := a0.turns) (a := y9) rfl Tryz.underlying23 ty1125 rfl rfl (ixO_nn by9) (ixO_get by9)) rfl ?_;refine st rfl rfl (eff_loadA rfl ty1125 rfl rfl rfl) rfl ?_;refine st rfl rfl (eff_fieldAddr rfl fl1191_0 rfl) rfl ?_;refine st rfl rfl (eff_load rfl ty1022 rfl) rfl ?_;refine st rfl rfl (eff_load rfl ty3 rfl) rfl ?_;refine st rfl rfl (eff_ix (f := S1122.c) (l := a0.stands) (a := y4) rfl Tryz.underlying22 ty1123 rfl rfl (Int.natCast_nonneg _) hx1) rfl ?_;refine st rfl rfl (eff_loadA rfl ty1123 rfl rfl rfl) rfl ?_;refine st rfl rfl (eff_call rfl K1128 rfl (c1128 y9 y4) (ag_cons rfl (ag_cons rfl ag_nil))) rfl ?_;refine st rfl rfl (eff_moveg rfl rfl) rfl ?_;refine st_g rfl rfl rfl (gb_bool _ _) (fun h => eff_moveg rfl rfl) rfl ?_;refine st_g rfl rfl rfl (gb_bool _ _) (fun h => eff_not rfl (gd h rfl)) rfl ?_;refine st rfl rfl (eff_and rfl rfl rfl rfl) rfl ?_;refine st_nil ?_;refine aw_cond _ rfl (fun h3 => ?_) (fun h3 => ?_)
    ·replace h3 : ((s1128 y9 y4) && (!r8)) = true := h3;replace hR := condT hR h3;(try simp only [Bool.or_eq_true, Bool.and_eq_true, Bool.or_eq_false_iff, Bool.and_eq_false_iff, Bool.not_eq_true', Bool.not_eq_false', decide_eq_true_eq, decide_eq_false_iff_not] at h3);refine aw_region [.p, .p, .p, .k, .p] ?_;refine st rfl rfl (eff_moveO rfl rfl) rfl ?_;refine st rfl rfl (eff_load rfl ty3 rfl) rfl ?_;refine st rfl rfl (eff_buildSlice rfl Tryz.underlying51 ty3 z3 rfl (ps_cons rfl ps_nil) rfl (by simp []) (by decide)) rfl ?_;refine st_k rfl rfl (eff_appL (f := cInt) (out := x1) (new := [((k3 : Nat) : Int)]) rfl app82 rfl rfl (src_eq rfl (src_sl (by decide) (by simp []))) (refsN rfl) (by simp; omega)) rfl ?_;refine st rfl rfl (eff_assignO rfl rfl) rfl ?_;refine st_nil ?_;exact ⟨rfl, x1 ++ [((k3 : Nat) : Int)], ⟨rfl, rfl, rfl, rfl, rfl, trivial⟩, ⟨rfl, trivial⟩, rfl, ⟨(by first | omega | (dsimp only; omega) | (simp at *; omega)), hR⟩, trivial⟩
    ·replace h3 : ((s1128 y9 y4) && (!r8)) = false := h3;replace hR := condF hR h3;(try simp only [Bool.or_eq_true, Bool.and_eq_true, Bool.or_eq_false_iff, Bool.and_eq_false_iff, Bool.not_eq_true', Bool.not_eq_false', decide_eq_true_eq, decide_eq_false_iff_not] at h3);refine aw_skip ?_;exact ⟨rfl, x1, ⟨rfl, rfl, rfl, rfl, rfl, trivial⟩, ⟨rfl, trivial⟩, rfl, ⟨(by first | omega | (dsimp only; omega) | (simp at *; omega)), hR⟩, trivial⟩
   ·rintro x6 ⟨jv1_0, hR⟩;replace jv1_0 : x6.length ≤ k3 + 1 := jv1_0;replace hR : s1107_j1 (fun k_ z0_ => s1107_l1 a0 a1 t5 k_ z0_) k3 x6 = some R := hR;unfold s1107_j1 at hR;refine aw_region [.p, .p] ?_;refine st rfl rfl (eff_add rfl rfl rfl (by unfold I64; omega)) rfl ?_;refine st rfl rfl (eff_moveg rfl rfl) rfl ?_;refine st_nil ?_;exact ⟨rfl, (k3 + 1, t5, x6), ⟨rfl, rfl, rfl, rfl, rfl, trivial⟩, ⟨rfl, trivial⟩, rfl, ⟨(by first | omega | (dsimp only; omega) | (simp at *; omega)), hd, hR⟩, by simp⟩
  ·replace h1 : (decide (((k3 : Nat) : Int) < (List.length a0.stands : Int))) = false := h1;obtain rfl := drop_nil hd (decF h1);rw [s1107_l1] at hR;refine aw_exit ?_;refine aw_seq ?_;refine aw_region [.p, .p] ?_;refine st rfl rfl (eff_moveO rfl rfl) rfl ?_;refine st rfl rfl (eff_assignO rfl rfl) rfl ?_;refine st_nil ?_;refine aw_ret ?_;obtain rfl := Option.some.inj hR;exact res_c rfl (rv_viewL rfl rfl)
def s1108 (a0 : S1190) (a1 : Int) (a2 : Int) : Option S1190 :=
 bindO (ixO (copyL (List.replicate (List.length a0.given) 0) a0.given) a1) fun y1 => some (S1190.mk a0.stands a0.turns a0.buffer (List.set (copyL (List.replicate (List.length a0.given) 0) a0.given) (Int.toNat a1) a2))
theorem c1108 {g : List (Nat × List Value)} (a0 : S1190) (a1 : Int) (a2 : Int) {R : S1190}  (hb : a0.given.length ≤ 1000) (hR : s1108 a0 a1 a2 = some R) : Con (EG g) 108 [G.agg [G.sl 3 (List.map S1122.c a0.stands), G.sl 5 (List.map S1124.c a0.turns), G.int a0.buffer, G.sl 1 (List.map cInt a0.given)], G.int a1, G.int a2] (G.agg [G.sl 3 (List.map S1122.c R.stands), G.sl 5 (List.map S1124.c R.turns), G.int R.buffer, G.sl 1 (List.map cInt R.given)]) := by
 unfold s1108 at hR;refine con_of_aw Tryz.func108 rfl rfl fun w0 M0 => ?_;refine aw_seq ?_;refine aw_region [.w, .w] ?_;refine st_w rfl rfl (eff_boxO (tv := .g (G.agg [G.sl 3 (List.map S1122.c a0.stands), G.sl 5 (List.map S1124.c a0.turns), G.int a0.buffer, G.sl 1 (List.map cInt a0.given)])) 3 rfl rfl rfl) rfl ?_;refine st_w rfl rfl (eff_alloc 6 rfl z1191 rfl rfl) rfl ?_;refine st_nil ?_;refine aw_seq ?_;refine aw_region [.p, .r, .p, .w, .p] ?_;refine st rfl rfl (eff_fieldO rfl fl1191_3 rfl) rfl ?_;refine st_r rfl rfl (eff_loadO rfl ty82 rfl rfl rfl) rfl ?_;refine st rfl rfl (eff_lenM (f := cInt) (l := a0.given) rfl Tryz.underlying51 rfl) rfl ?_;refine st_w rfl rfl (eff_makeS (f := cInt) (z := 0) 11 rfl mk82 rfl rfl rfl (by first | exact Int.le_refl _ | omega) (by first | decide | omega) rfl rfl rfl) rfl ?_;refine st rfl rfl (eff_assignO rfl rfl) rfl ?_;refine st_nil ?_;refine aw_seq ?_;refine aw_region [.p, .p, .r, .w] ?_;refine st rfl rfl (eff_moveO rfl rfl) rfl ?_;refine st rfl rfl (eff_fieldO rfl fl1191_3 rfl) rfl ?_;refine st_r rfl rfl (eff_loadO rfl ty82 rfl rfl rfl) rfl ?_;refine st_w rfl rfl (eff_copyL (f := cInt) (d := List.replicate (List.length a0.given) 0) (s := a0.given) rfl app82 rfl List.length_replicate rfl (src_eq rfl (src_sl (by decide) (by simp [])))) rfl ?_;refine st_nil ?_;refine aw_seq ?_;refine aw_region [.p, .p, .w] ?_;refine st rfl rfl (eff_moveO rfl rfl) rfl ?_;refine st rfl rfl (eff_fieldO rfl fl1191_3 rfl) rfl ?_;refine st_wn rfl rfl (eff_store (tv := .osl 11 1 0 (List.length a0.given)) rfl ty82 rfl rfl rfl rfl rfl) ?_;refine st_nil ?_;refine aw_seq ?_;obtain ⟨y1, by1, hR⟩ := bindO_inv hR;refine aw_region [.p, .r, .p, .p, .p, .w] ?_;refine st rfl rfl (eff_fieldO rfl fl1191_3 rfl) rfl ?_;refine st_r rfl rfl (eff_loadO rfl ty82 rfl rfl rfl) rfl ?_;refine st rfl rfl (eff_moveg rfl rfl) rfl ?_;refine st rfl rfl (eff_moveg rfl rfl) rfl ?_;refine st rfl rfl (eff_ixL rfl Tryz.underlying51 ty3 rfl rfl (ixO_nn by1) (Nat.lt_of_lt_of_eq (get_lt (ixO_get by1)) ((copyL_len _ _).trans List.length_replicate))) rfl ?_;refine st_wn rfl rfl (eff_setL (f := cInt) (l := copyL (List.replicate (List.length a0.given) 0) a0.given) (a' := a2) rfl ty3 rfl rfl rfl (Nat.lt_of_lt_of_eq (Nat.lt_of_lt_of_eq (get_lt (ixO_get by1)) ((copyL_len _ _).trans List.length_replicate)) (Eq.symm ((copyL_len _ _).trans List.length_replicate))) rfl (fun _ => rfl)) ?_;refine st_nil ?_;refine aw_seq ?_;refine aw_frzcell (l := [(3, .ptr 3 0), (6, .ptr 6 0)]) (m := [(3, .box [.g (G.sl 3 (List.map S1122.c a0.stands)), .g (G.sl 5 (List.map S1124.c a0.turns)), .g (G.int a0.buffer), .g (G.sl 1 (List.map cInt (List.set (copyL (List.replicate (List.length a0.given) 0) a0.given) (Int.toNat a1) a2)))]), (6, .box [.g (G.lit (.slice none 0 0)), .g (G.lit (.slice none 0 0)), .g (G.int 0), .g (G.lit (.slice none 0 0))])]) 3 3 11 1 _ rfl rfl rfl ((List.length_map ..).trans ((List.length_set ..).trans ((copyL_len _ _).trans List.length_replicate))) ⟨rfl, rfl, trivial⟩ ⟨rfl, rfl, trivial⟩ rfl rfl ?_;refine aw_region [.r, .w] ?_;refine st_r rfl rfl (eff_loadOA rfl ty1191 rfl rfl rfl rfl) rfl ?_;refine st_wn rfl rfl (eff_store (tv := .g (G.agg [G.sl 3 (List.map S1122.c a0.stands), G.sl 5 (List.map S1124.c a0.turns), G.int a0.buffer, G.sl 1 (List.map cInt (List.set (copyL (List.replicate (List.length a0.given) 0) a0.given) (Int.toNat a1) a2))])) rfl ty1191 rfl rfl rfl rfl rfl) ?_;refine st_nil ?_;refine aw_ret ?_;obtain rfl := Option.some.inj hR;exact res_c rfl (rv_cell rfl rfl ty1191 rfl rfl)
section
variable {E : Env} {w0 : World} {M0 : Nat → Prop}
theorem run_slBounds3 {P : Program} {w : World} {k1 k2 k3 : IntKind} {a c m len cap : Nat} (h1 : a ≤ c) (h2 : c ≤ m) (h3 : m ≤ cap) :
  (Instr.sliceBounds true len cap (some (.int k1 (a : Int))) (some (.int k2 (c : Int))) (some (.int k3 (m : Int)))).run P w = .ok (a, c, m) w := by
 simp [Instr.sliceBounds, run_slBound (P := P) (w := w) h1, run_slBound (P := P) (w := w) h2, run_slBound (P := P) (w := w) h3]
theorem run_slBounds2 {P : Program} {w : World} {k1 k2 : IntKind} {a c len cap : Nat} (h1 : a ≤ c) (h2 : c ≤ cap) :
  (Instr.sliceBounds true len cap (some (.int k1 (a : Int))) (some (.int k2 (c : Int))) none).run P w = .ok (a, c, cap) w := by
 simp [Instr.sliceBounds, run_slBound (P := P) (w := w) h1, run_slBound (P := P) (w := w) h2]
theorem set_row {cur : List Value} {o n a : Nat} {news : List Value} (h1 : a + news.length ≤ n) (h2 : o + n ≤ cur.length) :
  ((setAt cur (o + a) news).drop o).take n = ((cur.drop o).take n).take a ++ news ++ ((cur.drop o).take n).drop (a + news.length) := by
 simp only [setAt];rw [List.append_assoc, List.drop_append_of_le_length (by rw [List.length_take]; omega), List.drop_take, show o + a - o = a by omega]
 have hl1 : ((cur.drop o).take a).length = a := by rw [List.length_take, List.length_drop]; omega
 rw [List.take_append, hl1, List.take_of_length_le (l := (cur.drop o).take a) (by omega)];rw [List.take_append, List.take_of_length_le (l := news) (by omega)];rw [List.take_take, Nat.min_eq_left (show a ≤ n by omega), List.append_assoc]
 congr 2
 rw [List.drop_take, List.drop_drop]
 congr 1
 ·omega
 ·congr 1; omega
theorem eff_sl3 {o : Oper} {ev : Operand → TV} {t el : TypeId} {x lo hi mx : Operand} {id k N : Nat} {a c m : Int} {b : Bool} {ka kc km : IntKind} (ho : o.op = .slice t x (some lo) (some hi) (some mx)) (ht : E.P.underlying t = some (.slice el)) (hk : tyK E.P el = some (k, b)) (hx : ev x = .osl id k 0 N)
  (hlo : ev lo = .g (.lit (.int ka a))) (hhi : ev hi = .g (.lit (.int kc c))) (hmx : ev mx = .g (.lit (.int km m))) (h0 : 0 ≤ a) (h1 : a ≤ c) (h2 : c ≤ m) (h3 : m ≤ (N : Int)) (mem : Mem) : Eff E o mem ev .any :=
 eff_same (fun w M ρ e' he => by
  have g1 := he x (by rw [ho]; simp [Op.operands]);have g2 := he lo (by rw [ho]; simp [Op.operands]);have g3 := he hi (by rw [ho]; simp [Op.operands]);have g4 := he mx (by rw [ho]; simp [Op.operands]);rw [hx] at g1; rw [hlo] at g2; rw [hhi] at g3; rw [hmx] at g4
  have g2 : e' lo = .int ka ((a.toNat : Nat) : Int) := by rw [Int.toNat_of_nonneg h0]; exact g2
  have g3 : e' hi = .int kc ((c.toNat : Nat) : Int) := by rw [Int.toNat_of_nonneg (by omega)]; exact g3
  have g4 : e' mx = .int km ((m.toNat : Nat) : Int) := by rw [Int.toNat_of_nonneg (by omega)]; exact g4
  obtain ⟨ad, ln, cp, hs, hN⟩ : ∃ ad ln cp, e' x = .slice ad ln cp ∧ N ≤ cp := by
   rcases g1 with ⟨_, _, q, h⟩ | ⟨ow, _, _, q, p, h, _⟩
   ·exact ⟨_, _, _, h, by omega⟩
   ·exact ⟨_, _, _, h, by omega⟩
  have hb := run_slBounds3 (P := E.P) (w := w) (k1 := ka) (k2 := kc) (k3 := km) (len := ln) (show a.toNat ≤ c.toNat by omega) (show c.toNat ≤ m.toNat by omega) (show m.toNat ≤ cp by omega);refine ⟨.slice (if m.toNat = a.toNat then ad else ad.map (·.add (a.toNat * k))) (c.toNat - a.toNat) (m.toNat - a.toNat), ?_, trivial⟩
  ·simp only [execOp, ho, hs, g2, g3, g4, Instr.sliceAt, Instr.slice, Sem.run_bind, Sem.run_map, run_underlying ht, Result.andThen_ok, Option.map_some, hb, run_sizeOf hk, Sem.run_pure]) mem
theorem eff_slC {o : Oper} {mem : Mem} {ev : Operand → TV} {t el e : TypeId} {x lo hi : Operand} {id k M : Nat} {a c : Int} {b : Bool} {ka kc : IntKind} {xs : List (List G)} (ho : o.op = .slice t x (some lo) (some hi) none) (ht : E.P.underlying t = some (.slice el)) (hk : tyK E.P el = some (k, b)) (hx : ev x = .osl id k 0 M)
  (hlo : ev lo = .g (.lit (.int ka a))) (hhi : ev hi = .g (.lit (.int kc c))) (h0 : 0 ≤ a) (h1 : a ≤ c) (h2 : c ≤ (xs.length : Int)) (hl : lookO mem id = some (.arr e k xs)) (hM : 0 < xs.length) : Eff E o mem ev (.osl id k a.toNat c.toNat) := by
 intro w0 M0 ρ w e' hm he;have g1 := he x (by rw [ho]; simp [Op.operands]);have g2 := he lo (by rw [ho]; simp [Op.operands]);have g3 := he hi (by rw [ho]; simp [Op.operands]);rw [hx] at g1; rw [hlo] at g2; rw [hhi] at g3
 have g2 : e' lo = .int ka ((a.toNat : Nat) : Int) := by rw [Int.toNat_of_nonneg h0]; exact g2
 have g3 : e' hi = .int kc ((c.toNat : Nat) : Int) := by rw [Int.toNat_of_nonneg (by omega)]; exact g3
 rcases g1 with ⟨q0, _, q, _⟩ | ⟨ow, q1, _, q2, p, q3, q4⟩
 ·rcases hm.blk id _ hl with ⟨_, k2⟩ | ⟨ow', cur, k1, _⟩
  ·rw [k2] at hM; simp at hM
  ·rw [q0] at k1; cases k1
 ·rcases hm.blk id _ hl with ⟨k1, _⟩ | ⟨ow', cur, k1, k2, k3, k4, k5, k6, k7⟩
  ·rw [q1] at k1; cases k1
  have : ow' = ow := by rw [q1] at k1; simpa using k1.symm
  subst this;rw [Nat.sub_zero] at q3;have hp := q4 (by omega);have hb := run_slBounds2 (P := E.P) (w := w) (k1 := ka) (k2 := kc) (len := M) (show a.toNat ≤ c.toNat by omega) (show c.toNat ≤ ow'.cap by omega)
  have hrun : (execOp e' o).run E.P w = .ok (.value (.slice (if ow'.cap = a.toNat then some ⟨ow'.b, p, none⟩ else some ⟨ow'.b, p + a.toNat * k, none⟩) (c.toNat - a.toNat) (ow'.cap - a.toNat))) w := by
   simp only [execOp, ho, q3, g2, g3, Nat.sub_zero, Instr.sliceAt, Instr.slice, Sem.run_bind, Sem.run_map, run_underlying ht, Result.andThen_ok, Option.map_none, Option.map_some, hb, run_sizeOf hk, Sem.run_pure, Addr.add_lit]
  rw [hrun];refine ⟨Grow.refl w, .inr ⟨ow', q1, by omega, by omega, if ow'.cap = a.toNat then p else p + a.toNat * k, ?_, fun h => ?_⟩⟩
  ·by_cases hca : ow'.cap = a.toNat <;> simp [hca]
  ·rw [if_neg (by omega), hp, Nat.zero_mul, Nat.add_zero]
theorem eff_delA {o : Oper} {mem : Mem} {ev : Operand → TV} {s x : Operand} {t e : TypeId} {k by_ id a b N : Nat} {xs : List (List G)} (ho : o.op = .call ⟨.builtin .append, #[s, x], #[t, t]⟩) (ha : appK E.P t = some (e, k + 1, by_ + 1)) (hs : ev s = .osl id (k + 1) 0 a) (hx : ev x = .osl id (k + 1) b N)
  (hl : lookO mem id = some (.arr e (k + 1) xs)) (hN : xs.length = N) (hab : a ≤ b) (hbN : b ≤ N) (h0 : 0 < N) :
  EffW E o mem ev (.osl id (k + 1) 0 (a + (N - b))) ((id, .arr e (k + 1) (xs.take a ++ xs.drop b ++ xs.drop (a + (N - b)))) :: mem) none := by
 intro w0 M0 ρ w e' hm he;have v1 := he s (by rw [ho]; simp [Op.operands, Call.operands]);have v2 := he x (by rw [ho]; simp [Op.operands, Call.operands]);rw [hs] at v1; rw [hx] at v2;obtain ⟨i, z, t1, t2, t3, t4, t5, t6⟩ := appK_spec ha
 rcases hm.blk id _ hl with ⟨g1, g2⟩ | ⟨ow, cur, g1, g2, g3, g4, g5, g6, g7⟩
 ·rw [g2] at hN; simp at hN; omega
 have hcv : ∃ p, e' s = .slice (some ⟨ow.b, p, none⟩) a ow.cap ∧ (0 < ow.cap → p = ow.o) := by
  rcases v1 with ⟨h, _⟩ | ⟨ow', h, _, _, p, h4, h5⟩
  ·rw [g1] at h; cases h
  ·have : ow' = ow := by rw [g1] at h; simpa using h.symm
   subst this;exact ⟨p, by simpa using h4, by simpa using h5⟩
 have hcx : ∃ p, e' x = .slice (some ⟨ow.b, p, none⟩) (N - b) (ow.cap - b) ∧ (b < ow.cap → p = ow.o + b * (k + 1)) := by
  rcases v2 with ⟨h, _⟩ | ⟨ow', h, _, _, p, h4, h5⟩
  ·rw [g1] at h; cases h
  ·have : ow' = ow := by rw [g1] at h; simpa using h.symm
   subst this;exact ⟨p, h4, h5⟩
 obtain ⟨p, es, hp⟩ := hcv;obtain ⟨p', ex, hp'⟩ := hcx;subst hN;have hcap : ow.o + ow.cap * (k + 1) ≤ cur.size := g5.resolve_left (by omega);have hp := hp (by omega);subst hp;have hNk : xs.length * (k + 1) ≤ ow.cap * (k + 1) := Nat.mul_le_mul_right _ g3
 -- what is moved
 let news := ((cur.toList.drop ow.o).take (xs.length * (k + 1))).drop (b * (k + 1))
 have hcl : cur.toList.length = cur.size := Array.length_toList
 have hlenall : ((cur.toList.drop ow.o).take (xs.length * (k + 1))).length = xs.length * (k + 1) := by rw [List.length_take, List.length_drop, hcl]; omega
 have hbk : b * (k + 1) ≤ xs.length * (k + 1) := Nat.mul_le_mul_right _ hbN;have hak : a * (k + 1) ≤ b * (k + 1) := Nat.mul_le_mul_right _ hab;have hsub : (xs.length - b) * (k + 1) = xs.length * (k + 1) - b * (k + 1) := Nat.sub_mul _ _ _
 have hnl : news.length = (xs.length - b) * (k + 1) := by show (List.drop _ _).length = _; rw [List.length_drop, hlenall, hsub]
 have hfnew : Fits w (owned M0 ρ) (xs.drop b).flatten news := by
  have := g7.drop (b * (k + 1))
  rwa [flatten_drop b g6] at this
 have hmul : (a + (xs.length - b)) * (k + 1) = a * (k + 1) + (xs.length - b) * (k + 1) := Nat.add_mul _ _ _
 have hstore : ∃ w' cur', (execOp e' o).run E.P w = .ok (.value (.slice (some ⟨ow.b, ow.o, none⟩) (a + (xs.length - b)) ow.cap)) w' ∧ w'.heap[ow.b]? = some (.cells cur' e (0, 0)) ∧ cur'.toList = setAt cur.toList (ow.o + a * (k + 1)) news ∧ (∀ q, q ≠ ow.b → w'.heap[q]? = w.heap[q]?) ∧ w'.heap.size = w.heap.size ∧ w'.os = w.os ∧ w'.tape = w.tape ∧ w'.output = w.output := by
  have hrd : ∀ j u, news[j]? = some u → w.cell? (Addr.add ⟨ow.b, p', none⟩ j) = some u := by
   intro j u hj;have hj' := hj;have hjl : j < news.length := (List.getElem?_eq_some_iff.1 hj).1
   have hbc : b < ow.cap := by
    rcases Nat.lt_or_ge b ow.cap with h | h
    ·exact h
    ·have : xs.length - b = 0 := by omega
     rw [this] at hnl; omega
   rw [hp' hbc, Addr.add_lit, cell_of_row w _ _ _ _ _ g2];have : news[j]? = ((cur.toList.drop ow.o).take (xs.length * (k + 1)))[b * (k + 1) + j]? := List.getElem?_drop;rw [this, List.getElem?_take] at hj
   split at hj
   ·rw [List.getElem?_drop] at hj;rw [show ow.o + b * (k + 1) + j = ow.o + (b * (k + 1) + j) by omega]
    simpa using hj
   ·cases hj
  obtain ⟨w', cur', r1, r2, r3, r4, r5, r6, r7, r8⟩ := run_storeCells (P := E.P) ow.b (ow.o + a * (k + 1)) e news 0 cur w g2 (by omega) (fun u hu => hfnew.one u hu);have hf := run_firstCells_some (P := E.P) w (k + 1) (xs.length - b) ⟨ow.b, p', none⟩ (xs.length - b) (ow.cap - b) news hnl hrd;refine ⟨w', cur', ?_, r2, by rw [r3, Nat.add_zero], r4, r5, r6, r7, r8⟩
  have hroom : a + (xs.length - b) ≤ ow.cap := by omega
  have hrun : (execOp e' o) = (do pure (.value (← Builtin.append_ #[t, t] o.type #[e' s, e' x])) : Sem Next) := by simp [execOp, ho, resolve, invoke, builtin]
  rw [hrun, es, ex]
  simp [Builtin.append_, run_underlying t1, sizeOf, typeInfo, t2, Builtin.lenOf, hroom, t4, hf, Addr.add_lit, r1]
 obtain ⟨w', cur', hrun, r2, r3, r4, r5, r6, r7, r8⟩ := hstore;rw [hrun]
 have rsz : cur'.size = cur.size := by
  rw [← Array.length_toList, r3, ← Array.length_toList (xs := cur)];simp only [setAt, List.length_append, List.length_take, List.length_drop, Array.length_toList]
  omega
 have hdf : Diff ρ id w w' := ⟨r6, r7, r8, by omega, fun q _ hne => r4 q (hne ow g1)⟩
 have hM : ∀ q, q < w.heap.size → owned M0 (rhoSet ρ id (some ow)) q → owned M0 ρ q := by
  rintro q hq (h | ⟨j, o, h, rfl⟩)
  ·exact .inl h
  ·by_cases hj : j = id
   ·subst hj; rw [rhoSet_same] at h; cases h; exact .inr ⟨j, ow, g1, rfl⟩
   ·exact .inr ⟨j, o, by simpa [rhoSet, hj] using h, rfl⟩
 have hh : ∀ q, q < w.heap.size → ¬ owned M0 ρ q → w'.heap[q]? = w.heap[q]? := fun q _ hno => r4 q fun he => hno (.inr ⟨id, ow, g1, he.symm⟩)
 have hlen : (xs.take a ++ xs.drop b ++ xs.drop (a + (xs.length - b))).length = xs.length := by simp; omega
 have hrow : (cur'.toList.drop ow.o).take (xs.length * (k + 1)) = ((cur.toList.drop ow.o).take (xs.length * (k + 1))).take (a * (k + 1)) ++ news ++ ((cur.toList.drop ow.o).take (xs.length * (k + 1))).drop ((a + (xs.length - b)) * (k + 1)) := by
  rw [r3, hmul, ← hnl];exact set_row (by rw [hnl, hsub]; omega) (by rw [hcl]; omega)
 have hfits : Fits w' (owned M0 (rhoSet ρ id (some ow))) (xs.take a ++ xs.drop b ++ xs.drop (a + (xs.length - b))).flatten ((cur'.toList.drop ow.o).take (xs.length * (k + 1))) := by
  rw [hrow, List.flatten_append, List.flatten_append, ← flatten_take (k := k + 1) a g6, ← flatten_drop (k := k + 1) (a + (xs.length - b)) g6];exact (((g7.take _).append hfnew).append (g7.drop _)).mono hh hM
 obtain ⟨k1, k2⟩ := mrel_upd (id := id) (x := some ow) (blk' := .arr e (k + 1) (xs.take a ++ xs.drop b ++ xs.drop (a + (xs.length - b)))) none hm hdf (fun o ho => by cases ho; exact ⟨.inr ⟨ow, g1, rfl⟩, by rw [r5]; exact (hm.fresh id ow g1).2⟩) (.inr ⟨rfl, .inr g1⟩) (fun _ b _ _ => noref_none b) (.inl rfl)
  (.inr ⟨ow, cur', rhoSet_same _ _ _, r2, by rw [hlen]; exact g3, g4, g5.imp (fun h => h) (fun h => by rw [rsz]; exact h), fun c hc => by
    rcases List.mem_append.1 hc with hc | hc
    ·rcases List.mem_append.1 hc with hc | hc
     ·exact g6 c (List.mem_of_mem_take hc)
     ·exact g6 c (List.mem_of_mem_drop hc)
    ·exact g6 c (List.mem_of_mem_drop hc), by rw [hlen]; exact hfits⟩)
 exact ⟨_, k1, k2, .inr ⟨ow, rhoSet_same _ _ _, Nat.zero_le _, by omega, ow.o, by simp, fun _ => by simp⟩⟩
theorem eff_delL {α : Type} {f0 : α → List G} {l : List α} {o : Oper} {mem : Mem} {ev : Operand → TV} {s x : Operand} {t e : TypeId} {k by_ id a b N : Nat} (ho : o.op = .call ⟨.builtin .append, #[s, x], #[t, t]⟩) (ha : appK E.P t = some (e, k + 1, by_ + 1)) (hs : ev s = .osl id (k + 1) 0 a) (hx : ev x = .osl id (k + 1) b N)
  (hl : lookO mem id = some (.arr e (k + 1) (l.map f0))) (hN : l.length = N) (hab : a ≤ b) (hbN : b ≤ N) (h0 : 0 < N) :
  EffW E o mem ev (.osl id (k + 1) 0 (a + (N - b))) ((id, .arr e (k + 1) ((l.take a ++ l.drop b ++ l.drop (a + (N - b))).map f0)) :: mem) none := by
 have := eff_delA ho ha hs hx hl (by rw [List.length_map]; exact hN) hab hbN h0
 simpa only [List.map_append, List.map_take, List.map_drop] using this
theorem eff_slCL {α : Type} {f0 : α → List G} {l : List α} {o : Oper} {mem : Mem} {ev : Operand → TV} {t el e : TypeId} {x lo hi : Operand} {id k M N : Nat} {a c : Int} {b : Bool} {ka kc : IntKind} (ho : o.op = .slice t x (some lo) (some hi) none) (ht : E.P.underlying t = some (.slice el)) (hk : tyK E.P el = some (k, b)) (hx : ev x = .osl id k 0 M)
  (hlo : ev lo = .g (.lit (.int ka a))) (hhi : ev hi = .g (.lit (.int kc c))) (h0 : 0 ≤ a) (h1 : a ≤ c) (hN : l.length = N) (h2 : c ≤ (N : Int)) (hl : lookO mem id = some (.arr e k (l.map f0))) (hM : 0 < N) : Eff E o mem ev (.osl id k a.toNat c.toNat) :=
 eff_slC ho ht hk hx hlo hhi h0 h1 (by rw [List.length_map, hN]; exact h2) hl (by rw [List.length_map, hN]; exact hM)
theorem del_len {α : Type} {l : List α} {a b N : Nat} (hN : l.length = N) (hab : a ≤ b) (hbN : b ≤ N) : (l.take a ++ l.drop b ++ l.drop (a + (N - b))).length = N := by simp; omega
end
end Go.Sim
set_option maxRecDepth 10000
namespace Go.Sim
open Go.Proofs
def s1144 (a0 : List Int) (a1 : Int) (a2 : Int) : (List Int) × Nat :=
 (bif decide (a1 = a2) then (a0, List.length a0) else (List.take (Int.toNat ((((Int.toNat a1) + ((List.length a0) - (Int.toNat a2))) - (0) : Nat) : Int)) (List.take (Int.toNat a1) a0 ++ List.drop (Int.toNat a2) a0 ++ List.drop ((Int.toNat a1) + ((List.length a0) - (Int.toNat a2))) a0), (Int.toNat a1) + ((List.length a0) - (Int.toNat a2))))
theorem c1144 {g : List (Nat × List Value)} (a0 : List Int) (a1 : Int) (a2 : Int)  (hA : 0 ≤ a1) (hAB : a1 ≤ a2) (hB : a2 ≤ (List.length a0 : Int))  : ConT (EG g) 144 [.osl 0 1 0 (List.length a0), .g (G.int a1), .g (G.int a2)] 3 1 (List.map cInt a0) (List.map cInt (s1144 a0 a1 a2).1) (s1144 a0 a1 a2).2 := by
 generalize hR : s1144 a0 a1 a2 = R;unfold s1144 at hR;refine conT_of_aw Tryz.func144 rfl rfl fun w0 M0 x => ?_;refine len_osl (f := cInt) (l := a0) 0 rfl fun hla0 => ?_;refine aw_seq ?_;refine aw_region [.w] ?_;refine st_w rfl rfl (eff_nilL 6 3 1 rfl rfl rfl) rfl ?_;refine st_nil ?_;refine aw_seq ?_;refine aw_region [.p, .p, .p, .p, .p, .p] ?_;refine st rfl rfl (eff_moveO rfl rfl) rfl ?_;refine st rfl rfl (eff_moveg rfl rfl) rfl ?_;refine st rfl rfl (eff_moveg rfl rfl) rfl ?_;refine st rfl rfl (eff_moveO rfl rfl) rfl ?_;refine st rfl rfl (eff_lenO0 rfl Tryz.underlying51 rfl) rfl ?_;refine st rfl rfl (eff_sl3 rfl Tryz.underlying51 ty3 rfl rfl rfl rfl hA hAB hB (Int.le_refl _)) rfl ?_;refine st_nil ?_;refine aw_seq ?_;refine aw_seq ?_;refine aw_region [.p, .p, .p] ?_;refine st rfl rfl (eff_moveg rfl rfl) rfl ?_;refine st rfl rfl (eff_moveg rfl rfl) rfl ?_;refine st rfl rfl (eff_eql rfl rfl rfl) rfl ?_;refine st_nil ?_;refine aw_cond _ rfl (fun h1 => ?_) (fun h1 => ?_)
 ·replace h1 : (decide (a1 = a2)) = true := h1;replace hR := condT hR h1;(try simp only [Bool.or_eq_true, Bool.and_eq_true, Bool.or_eq_false_iff, Bool.and_eq_false_iff, Bool.not_eq_true', Bool.not_eq_false', decide_eq_true_eq, decide_eq_false_iff_not] at h1);refine aw_seq ?_;refine aw_region [.p, .p] ?_;refine st rfl rfl (eff_moveO rfl rfl) rfl ?_;refine st rfl rfl (eff_assignO rfl rfl) rfl ?_;refine st_nil ?_;refine aw_ret ?_;subst hR;show (∃ t_, _ ∧ _) ∧ MemL _ _;exact ⟨⟨_, rfl, rfl⟩, rfl, trivial⟩
 ·replace h1 : (decide (a1 = a2)) = false := h1;replace hR := condF hR h1;(try simp only [Bool.or_eq_true, Bool.and_eq_true, Bool.or_eq_false_iff, Bool.and_eq_false_iff, Bool.not_eq_true', Bool.not_eq_false', decide_eq_true_eq, decide_eq_false_iff_not] at h1);refine aw_skip ?_;refine aw_seq ?_;refine aw_region [.p, .p, .p] ?_;refine st rfl rfl (eff_moveO rfl rfl) rfl ?_;refine st rfl rfl (eff_lenO0 rfl Tryz.underlying51 rfl) rfl ?_;refine st rfl rfl (eff_assigng rfl rfl) rfl ?_;refine st_nil ?_;refine aw_seq ?_;refine aw_draw [.p, .p, .p, .p, .p, .p, .w, .p] (by kernel_rfl) ?_;refine st rfl rfl (eff_moveO rfl rfl) rfl ?_;refine st rfl rfl (eff_moveg rfl rfl) rfl ?_;refine st rfl rfl (eff_slO (a := 0) (c := Int.toNat a1) rfl Tryz.underlying51 ty3 rfl bnd_none (bnd_some rfl (by omega)) (by omega) (by omega)) rfl ?_;refine st rfl rfl (eff_moveO rfl rfl) rfl ?_;refine st rfl rfl (eff_moveg rfl rfl) rfl ?_;refine st rfl rfl (eff_slO (a := Int.toNat a2) (c := List.length a0) rfl Tryz.underlying51 ty3 rfl (bnd_some rfl (by omega)) bnd_none (by omega) (by omega)) rfl ?_;refine st_w rfl rfl (eff_delL (f0 := cInt) (l := a0) rfl app82 rfl rfl rfl rfl (by omega) (by omega) (by omega)) rfl ?_;refine st rfl rfl (eff_assignO rfl rfl) rfl ?_;refine st_nil ?_;refine aw_seq ?_;refine aw_region [.p, .p, .p, .p, .r, .w] ?_;refine st rfl rfl (eff_moveO rfl rfl) rfl ?_;refine st rfl rfl (eff_moveO rfl rfl) rfl ?_;refine st rfl rfl (eff_lenO rfl Tryz.underlying51 rfl) rfl ?_;refine st rfl rfl (eff_moveg rfl rfl) rfl ?_;refine st_r rfl rfl (eff_slCL (f0 := cInt) (l := List.take (Int.toNat a1) a0 ++ List.drop (Int.toNat a2) a0 ++ List.drop ((Int.toNat a1) + ((List.length a0) - (Int.toNat a2))) a0) rfl Tryz.underlying51 ty3 rfl rfl rfl (by omega) (by omega) (del_len rfl (by omega) (by omega)) (by omega) rfl (by omega)) rfl ?_;refine st_wn rfl rfl (eff_clearO (f0 := cInt) (l := List.take (Int.toNat a1) a0 ++ List.drop (Int.toNat a2) a0 ++ List.drop ((Int.toNat a1) + ((List.length a0) - (Int.toNat a2))) a0) (a := Int.toNat ((((Int.toNat a1) + ((List.length a0) - (Int.toNat a2))) - (0) : Nat) : Int)) rfl Tryz.underlying51 z3 rfl (((del_len rfl (by omega) (by omega))).trans (by omega)) rfl rfl rfl) ?_;refine st_nil ?_;refine aw_seq ?_;refine aw_region [.p, .p] ?_;refine st rfl rfl (eff_moveO rfl rfl) rfl ?_;refine st rfl rfl (eff_assignO rfl rfl) rfl ?_;refine st_nil ?_;refine aw_ret ?_;subst hR;show (∃ t_, _ ∧ _) ∧ MemL _ _;exact ⟨⟨_, rfl, rfl⟩, rfl, trivial⟩
theorem del_eq (a0 : List Int) (a1 a2 : Int) (hA : 0 ≤ a1) (hAB : a1 ≤ a2) (hB : a2 ≤ (a0.length : Int)) : (s1144 a0 a1 a2).2 ≤ (s1144 a0 a1 a2).1.length ∧ List.take (s1144 a0 a1 a2).2 (s1144 a0 a1 a2).1 = a0.take a1.toNat ++ a0.drop a2.toNat := by
 unfold s1144
 by_cases h : a1 = a2
 ·subst h;rw [decide_eq_true rfl, cond_true];exact ⟨Nat.le_refl _, by rw [List.take_length, List.take_append_drop]⟩
 ·rw [decide_eq_false h, cond_false];dsimp only
  have e : Int.toNat ((((Int.toNat a1) + ((List.length a0) - (Int.toNat a2))) - (0) : Nat) : Int) = (Int.toNat a1) + ((List.length a0) - (Int.toNat a2)) := by omega
  rw [e]
  have hl : (a0.take a1.toNat ++ a0.drop a2.toNat).length = a1.toNat + (a0.length - a2.toNat) := by simp; omega
  have ht : List.take (a1.toNat + (a0.length - a2.toNat)) (a0.take a1.toNat ++ a0.drop a2.toNat ++ a0.drop (a1.toNat + (a0.length - a2.toNat))) = a0.take a1.toNat ++ a0.drop a2.toNat := by
   rw [← hl, List.take_left]
  rw [ht, ← hl];exact ⟨Nat.le_refl _, List.take_length⟩
theorem give1144 (a0 : List Int) (a1 a2 : Int) (hA : 0 ≤ a1) (hAB : a1 ≤ a2) (hB : a2 ≤ (a0.length : Int)) : (s1144 a0 a1 a2).2 ≤ (s1144 a0 a1 a2).1.length := (del_eq a0 a1 a2 hA hAB hB).1
theorem del_le (a0 : List Int) (a1 a2 : Int) (hA : 0 ≤ a1) (hAB : a1 ≤ a2) (hB : a2 ≤ (a0.length : Int)) (h : a0.length ≤ 1000) : (List.take (s1144 a0 a1 a2).2 (s1144 a0 a1 a2).1).length ≤ 1000 := by
 rw [(del_eq a0 a1 a2 hA hAB hB).2]; simp; omega
theorem copyL_self (l : List Int) : copyL (List.replicate l.length 0) l = l := by
 unfold copyL;rw [List.length_replicate, List.take_length, List.drop_of_length_le (by simp), List.append_nil]
theorem with_eq (p : S1190) (i s : Int) : s1108 p i s = if 0 ≤ i ∧ i.toNat < p.given.length then some ⟨p.stands, p.turns, p.buffer, p.given.set i.toNat s⟩ else none := by
 unfold s1108;rw [copyL_self];unfold ixO
 by_cases h : 0 ≤ i
 ·rw [decide_eq_true h, cond_true]
  by_cases h2 : i.toNat < p.given.length
  ·rw [List.getElem?_eq_getElem h2, if_pos ⟨h, h2⟩]; rfl
  ·rw [List.getElem?_eq_none (by omega), if_neg (fun q => h2 q.2)]; rfl
 ·rw [decide_eq_false h, cond_false, if_neg (fun q => h q.1)]; rfl
theorem with1108 {p q : S1190} {i s : Int} (h : s1108 p i s = some q) : q.stands = p.stands ∧ q.turns = p.turns ∧ q.buffer = p.buffer ∧ q.given.length = p.given.length := by
 rw [with_eq] at h
 split at h
 ·cases h; exact ⟨rfl, rfl, rfl, by simp⟩
 ·cases h
theorem poss_le {p q : S1190} {i s : Int} (h : s1108 p i s = some q) (h1 : p.turns.length ≤ 1000) (h2 : p.stands.length ≤ 1000) (h3 : p.given.length ≤ 1000) : q.turns.length ≤ 1000 ∧ q.stands.length ≤ 1000 ∧ q.given.length ≤ 1000 := by
 obtain ⟨e1, e2, _, e3⟩ := with1108 h;exact ⟨by rw [e2]; exact h1, by rw [e1]; exact h2, by rw [e3]; exact h3⟩
theorem del_filter {l : List Int} {f : Int → Bool} {R : List Int × Nat} (h : s1146 l f = some R) : List.take R.2 R.1 = l.filter fun y => !(f y) := by
 obtain ⟨L, h1, h2, _⟩ := s1146_ok l f;rw [h1] at h; cases h; exact h2
theorem del_rest {l : List Int} {f : Int → Bool} {R : List Int × Nat} (h : s1146 l f = some R) (hl : l.length ≤ 1000) : (List.take R.2 R.1).length ≤ 1000 := by
 rw [del_filter h];have := List.length_filter_le (fun y => !(f y)) l
 omega
end Go.Sim
set_option maxRecDepth 10000
namespace Go.Sim
open Go.Proofs
def s1147 (a0 : Int) (a1 : Int) : Bool :=
 decide (a0 = a1)
theorem c1147 {g : List (Nat × List Value)} (a0 : Int) (a1 : Int)    : Con (EG g) 147 [G.int a0, G.ref [G.int a1]] (G.bool (s1147 a0 a1)) := by
 generalize hR : s1147 a0 a1 = R;unfold s1147 at hR;refine con_of_aw Tryz.func147 rfl rfl fun w0 M0 => ?_;refine aw_seq ?_;refine aw_region [.p] ?_;refine st rfl rfl (eff_assigng rfl rfl) rfl ?_;refine st_nil ?_;refine aw_seq ?_;refine aw_region [.p, .p, .p, .p] ?_;refine st rfl rfl (eff_moveg rfl rfl) rfl ?_;refine st rfl rfl (eff_load rfl ty3 rfl) rfl ?_;refine st rfl rfl (eff_eql rfl rfl rfl) rfl ?_;refine st rfl rfl (eff_assigng rfl rfl) rfl ?_;refine st_nil ?_;refine aw_ret ?_;subst hR;exact res_c rfl (rv_g rfl)
def s1148 (poss : S1190 → List Int → Option Bool) (a0 : Int) (a1 : S1190) (a2 : Int) (a3 : List Int) : Option Bool :=
 bindO (s1108 a1 a2 a0) fun r1 => bindO (poss r1 a3) fun r2 => some r2
theorem c1148 {g : List (Nat × List Value)} (poss : S1190 → List Int → Option Bool) (a0 : Int) (a1 : S1190) (a2 : Int) (a3 : List Int) {R : Bool}  (Hposs : ∀ (q : S1190) (r : List Int) (R : Bool), q.turns.length ≤ 1000 → q.stands.length ≤ 1000 → q.given.length ≤ 1000 → r.length ≤ 1000 → poss q r = some R → Con (EG g) 109 [G.agg [G.sl 3 (List.map S1122.c q.stands), G.sl 5 (List.map S1124.c q.turns), G.int q.buffer, G.sl 1 (List.map cInt q.given)], G.sl 1 (List.map cInt r)] (G.bool R)) (hb1 : a1.turns.length ≤ 1000) (hb2 : a1.stands.length ≤ 1000) (hb3 : a1.given.length ≤ 1000) (hb4 : a3.length ≤ 1000) (hR : s1148 poss a0 a1 a2 a3 = some R) : Con (EG g) 148 [G.int a0, G.ref [G.sl 3 (List.map S1122.c a1.stands), G.sl 5 (List.map S1124.c a1.turns), G.int a1.buffer, G.sl 1 (List.map cInt a1.given)], G.ref [G.int a2], G.ref [G.sl 1 (List.map cInt a3)]] (G.bool R) := by
 unfold s1148 at hR;refine con_of_aw Tryz.func148 rfl rfl fun w0 M0 => ?_;refine aw_seq ?_;refine aw_region [.p] ?_;refine st rfl rfl (eff_assigng rfl rfl) rfl ?_;refine st_nil ?_;refine aw_seq ?_;obtain ⟨r1, br1, hR⟩ := bindO_inv hR;obtain ⟨r2, br2, hR⟩ := bindO_inv hR;have hw := poss_le br1 hb1 hb2 hb3;refine aw_draw [.p, .p, .p, .p, .p, .p, .p] (by kernel_rfl) ?_;refine st rfl rfl (eff_loadA rfl ty1191 rfl rfl rfl) rfl ?_;refine st rfl rfl (eff_load rfl ty3 rfl) rfl ?_;refine st rfl rfl (eff_moveg rfl rfl) rfl ?_;refine st rfl rfl (eff_call rfl K1108 rfl (c1108 a1 a2 a0 (by first | assumption | omega | (simp [copyL_len]; done) | (simp [copyL_len]; omega)) br1) (ag_cons rfl (ag_cons rfl (ag_cons rfl ag_nil)))) rfl ?_;refine st rfl rfl (eff_load rfl ty82 rfl) rfl ?_;refine st rfl rfl (eff_call rfl K1109 rfl (Hposs r1 a3 r2 hw.1 hw.2.1 hw.2.2 hb4 br2) (ag_cons rfl (ag_cons rfl ag_nil))) rfl ?_;refine st rfl rfl (eff_assigng rfl rfl) rfl ?_;refine st_nil ?_;refine aw_ret ?_;obtain rfl := Option.some.inj hR;exact res_c rfl (rv_g rfl)
end Go.Sim
set_option maxRecDepth 10000
namespace Go.Sim
open Go.Proofs
def s1109_j1 (rec1 : Nat → (List Int) → Int → Option Bool) (k4 : Nat) (x9 : List Int) (x10 : Int) : Option Bool :=
 rec1 (k4 + 1) x9 x10
def s1109_j2 (rec2 : Nat → Int → Option Bool) (k15 : Nat) (x19 : Int) : Option Bool :=
 rec2 (k15 + 1) x19
def s1109_l2 (self : S1190 → (List Int) → Option Bool) (rec1 : Nat → (List Int) → Int → Option Bool) (a0 : S1190) (a1 : List Int) (x1 : List Int) (x3 : Int) (k4 : Nat) (y5 : Int) (r11 : List Int) : List Int → Nat → Int → Option Bool
 | [], k15, x13 => (bif decide (x13 < (List.length r11 : Int)) then bindO (self a0 (List.take (s1144 a1 ((k4 : Nat) : Int) (((k4 : Nat) : Int) + 1)).2 (s1144 a1 ((k4 : Nat) : Int) (((k4 : Nat) : Int) + 1)).1)) fun r18 => some r18 else (bif (decide (x3 < 0)) || (decide ((List.length r11 : Int) < (List.length x1 : Int))) then s1109_j1 rec1 k4 r11 y5 else s1109_j1 rec1 k4 x1 x3))
 | y16 :: t17, k15, x13 => bindO (ixO a0.given y16) fun y20 => (bif (decide (y20 < 0)) && (s144 a1 y16) then s1109_j2 (fun k_ z0_ => s1109_l2 self rec1 a0 a1 x1 x3 k4 y5 r11 t17 k_ z0_) k15 (IntKind.i64.wrap (x13 + 1)) else s1109_j2 (fun k_ z0_ => s1109_l2 self rec1 a0 a1 x1 x3 k4 y5 r11 t17 k_ z0_) k15 x13)
def s1109_l1 (self : S1190 → (List Int) → Option Bool) (a0 : S1190) (a1 : List Int) : List Int → Nat → (List Int) → Int → Option Bool
 | [], k4, x1, x3 => (bif decide (x3 < 0) then some true else bindO (s1146 a1 (fun x0 => s1147 x0 x3)) fun r7 => bindO (s1140p x1 (fun x0 => s1148 self x0 a0 x3 (List.take r7.2 r7.1))) fun r8 => some r8)
 | y5 :: t6, k4, x1, x3 => bindO (s1107 a0 y5) fun r11 => bindO (s1141 a0 y5) fun r12 => s1109_l2 self (fun k_ z0_ z1_ => s1109_l1 self a0 a1 t6 k_ z0_ z1_) a0 a1 x1 x3 k4 y5 r11 r12 0 0
def s1109 : Nat → S1190 → (List Int) → Option Bool
 | 0, _, _ => none
 | kf_ + 1, a0, a1 => s1109_l1 (fun z0_ z1_ => s1109 kf_ z0_ z1_) a0 a1 a1 0 [] (-1)
theorem c1109 {g : List (Nat × List Value)} (kf_ : Nat) : ∀ (a0 : S1190) (a1 : List Int) {R : Bool}  (hb : a0.turns.length ≤ 1000) (hb2 : a0.stands.length ≤ 1000) (hb3 : a0.given.length ≤ 1000) (hb4 : a1.length ≤ 1000) (hR : s1109 kf_ a0 a1 = some R), Con (EG g) 109 [G.agg [G.sl 3 (List.map S1122.c a0.stands), G.sl 5 (List.map S1124.c a0.turns), G.int a0.buffer, G.sl 1 (List.map cInt a0.given)], G.sl 1 (List.map cInt a1)] (G.bool R) := by
 induction kf_ with
 | zero => intro a0 a1 R hb hb2 hb3 hb4 hR; rw [s1109] at hR; cases hR
 | succ kf_ ih =>
 intro a0 a1 R hb hb2 hb3 hb4 hR;rw [s1109] at hR;(try dsimp only at hR);refine con_of_aw Tryz.func109 rfl rfl fun w0 M0 => ?_;refine len_sl (f := cInt) (l := a1) 1 rfl fun hla1 => ?_;refine aw_seq ?_;refine aw_region [.p, .p] ?_;refine st rfl rfl (eff_box rfl rfl) rfl ?_;refine st rfl rfl (eff_assigng rfl rfl) rfl ?_;refine st_nil ?_;refine aw_seq ?_;refine aw_region [.w, .w, .p] ?_;refine st_w rfl rfl (eff_alloc 5 rfl z3 rfl rfl) rfl ?_;refine st_wn rfl rfl (eff_store (tv := .g (G.int (-1))) rfl ty3 rfl rfl rfl rfl rfl) ?_;refine st rfl rfl (eff_nilS 1 rfl rfl) rfl ?_;refine st_nil ?_;refine aw_seq ?_;refine aw_seq ?_;refine aw_region [.p, .p, .p] ?_;refine st rfl rfl (eff_moveg rfl rfl) rfl ?_;refine st rfl rfl (eff_lenM (f := cInt) (l := a1) rfl Tryz.underlying51 rfl) rfl ?_;refine st rfl rfl (eff_moveg rfl rfl) rfl ?_;refine st_nil ?_;refine aw_block ?_;refine aw_loop_g (γ := Nat × (List Int) × (List Int) × Int) (fun g => ([(1, .g (G.sl 1 (List.map cInt a1))), (2, .g (G.ref [G.sl 3 (List.map S1122.c a0.stands), G.sl 5 (List.map S1124.c a0.turns), G.int a0.buffer, G.sl 1 (List.map cInt a0.given)])), (5, .ptr 5 0), (6, .g (G.sl 1 (List.map cInt g.2.2.1))), (14, .g (G.sl 1 (List.map cInt a1))), (15, .g (G.int (List.length a1 : Int))), (16, .g (G.int ((g.1 : Nat) : Int)))], [(5, .box [.g (G.int g.2.2.2)])])) (fun g => a1.drop g.1 = g.2.1 ∧ s1109_l1 (fun z0_ z1_ => s1109 kf_ z0_ z1_) a0 a1 g.2.1 g.1 g.2.2.1 g.2.2.2 = some R) (fun g => List.length g.2.1) ⟨rfl, (0, a1, [], (-1)), ⟨rfl, rfl, rfl, rfl, rfl, rfl, rfl, trivial⟩, ⟨rfl, trivial⟩, rfl, ⟨rfl, (by exact hR)⟩, trivial⟩ ?_
 ·rintro ⟨k4, t6, x1, x3⟩ ⟨hd, hR⟩;replace hd : a1.drop k4 = t6 := hd;replace hR : s1109_l1 (fun z0_ z1_ => s1109 kf_ z0_ z1_) a0 a1 t6 k4 x1 x3 = some R := hR;refine aw_seq ?_;refine aw_region [.p] ?_;refine st rfl rfl (eff_lss rfl rfl rfl) rfl ?_;refine st_nil ?_;refine len_sl (f := cInt) (l := a1) 1 rfl fun hlz1 => ?_;refine aw_seq ?_;refine aw_cond _ rfl (fun h1 => ?_) (fun h1 => ?_)
  ·replace h1 : (decide (((k4 : Nat) : Int) < (List.length a1 : Int))) = true := h1;obtain ⟨y5, t6, rfl, hx1, hd⟩ := drop_cons hd (decT h1);replace h1 := decT h1;rw [s1109_l1] at hR;(try dsimp only at hR);refine aw_skip ?_;refine aw_cut_g (γ := (List Int) × Int) (fun g => ([(1, .g (G.sl 1 (List.map cInt a1))), (2, .g (G.ref [G.sl 3 (List.map S1122.c a0.stands), G.sl 5 (List.map S1124.c a0.turns), G.int a0.buffer, G.sl 1 (List.map cInt a0.given)])), (5, .ptr 5 0), (6, .g (G.sl 1 (List.map cInt g.1))), (14, .g (G.sl 1 (List.map cInt a1))), (15, .g (G.int (List.length a1 : Int))), (16, .g (G.int ((k4 : Nat) : Int)))], [(5, .box [.g (G.int g.2)])])) (fun g => s1109_j1 (fun k_ z0_ z1_ => s1109_l1 (fun z0_ z1_ => s1109 kf_ z0_ z1_) a0 a1 t6 k_ z0_ z1_) k4 g.1 g.2 = some R) ?_ ?_
   ·refine aw_block ?_;refine aw_seq ?_;refine aw_region [.p, .p, .p, .p, .p] ?_;refine st rfl rfl (eff_moveg rfl rfl) rfl ?_;refine st rfl rfl (eff_ix (f := cInt) (l := a1) (a := y5) rfl Tryz.underlying51 ty3 rfl rfl (Int.natCast_nonneg _) hx1) rfl ?_;refine st rfl rfl (eff_load rfl ty3 rfl) rfl ?_;refine st rfl rfl (eff_assigng rfl rfl) rfl ?_;refine st rfl rfl (eff_assigng rfl rfl) rfl ?_;refine st_nil ?_;refine aw_seq ?_;obtain ⟨r11, br11, hR⟩ := bindO_inv hR;refine aw_region [.p, .p, .p, .p] ?_;refine st rfl rfl (eff_loadA rfl ty1191 rfl rfl rfl) rfl ?_;refine st rfl rfl (eff_moveg rfl rfl) rfl ?_;refine st rfl rfl (eff_call rfl K1107 rfl (c1107 a0 y5 (by first | assumption | omega | (simp [copyL_len]; done) | (simp [copyL_len]; omega)) (by first | assumption | omega | (simp [copyL_len]; done) | (simp [copyL_len]; omega)) br11) (ag_cons rfl (ag_cons rfl ag_nil))) rfl ?_;refine st rfl rfl (eff_assigng rfl rfl) rfl ?_;refine st_nil ?_;refine aw_seq ?_;refine aw_region [.p] ?_;refine st rfl rfl (eff_assigng rfl rfl) rfl ?_;refine st_nil ?_;refine aw_seq ?_;refine aw_seq ?_;obtain ⟨r12, br12, hR⟩ := bindO_inv hR;refine aw_region [.p, .p, .p, .p, .p] ?_;refine st rfl rfl (eff_loadA rfl ty1191 rfl rfl rfl) rfl ?_;refine st rfl rfl (eff_moveg rfl rfl) rfl ?_;refine st rfl rfl (eff_call rfl K1141 rfl (c1141 a0 y5 (by first | assumption | omega | (simp [copyL_len]; done) | (simp [copyL_len]; omega)) br12) (ag_cons rfl (ag_cons rfl ag_nil))) rfl ?_;refine st rfl rfl (eff_lenM (f := cInt) (l := r12) rfl Tryz.underlying51 rfl) rfl ?_;refine st rfl rfl (eff_moveg rfl rfl) rfl ?_;refine st_nil ?_;refine aw_block ?_;refine aw_loop_g (γ := Nat × (List Int) × Int) (fun g => ([(1, .g (G.sl 1 (List.map cInt a1))), (2, .g (G.ref [G.sl 3 (List.map S1122.c a0.stands), G.sl 5 (List.map S1124.c a0.turns), G.int a0.buffer, G.sl 1 (List.map cInt a0.given)])), (5, .ptr 5 0), (6, .g (G.sl 1 (List.map cInt x1))), (7, .g (G.int ((k4 : Nat) : Int))), (8, .g (G.int y5)), (9, .g (G.sl 1 (List.map cInt r11))), (10, .g (G.int g.2.2)), (14, .g (G.sl 1 (List.map cInt a1))), (15, .g (G.int (List.length a1 : Int))), (16, .g (G.int ((k4 : Nat) : Int))), (26, .g (G.sl 1 (List.map cInt r12))), (27, .g (G.int (List.length r12 : Int))), (28, .g (G.int ((g.1 : Nat) : Int)))], [(5, .box [.g (G.int x3)])])) (fun g => r12.drop g.1 = g.2.1 ∧ s1109_l2 (fun z0_ z1_ => s1109 kf_ z0_ z1_) (fun k_ z0_ z1_ => s1109_l1 (fun z0_ z1_ => s1109 kf_ z0_ z1_) a0 a1 t6 k_ z0_ z1_) a0 a1 x1 x3 k4 y5 r11 g.2.1 g.1 g.2.2 = some R) (fun g => List.length g.2.1) ⟨rfl, (0, r12, 0), ⟨rfl, rfl, rfl, rfl, rfl, rfl, rfl, rfl, rfl, rfl, rfl, rfl, rfl, rfl, trivial⟩, ⟨rfl, trivial⟩, rfl, ⟨rfl, (by exact hR)⟩, trivial⟩ ?_
    ·rintro ⟨k15, t17, x13⟩ ⟨hd2, hR⟩;replace hd2 : r12.drop k15 = t17 := hd2;replace hR : s1109_l2 (fun z0_ z1_ => s1109 kf_ z0_ z1_) (fun k_ z0_ z1_ => s1109_l1 (fun z0_ z1_ => s1109 kf_ z0_ z1_) a0 a1 t6 k_ z0_ z1_) a0 a1 x1 x3 k4 y5 r11 t17 k15 x13 = some R := hR;refine aw_seq ?_;refine aw_region [.p] ?_;refine st rfl rfl (eff_lss rfl rfl rfl) rfl ?_;refine st_nil ?_;refine len_sl (f := cInt) (l := r12) 26 rfl fun hlz2 => ?_;refine aw_seq ?_;refine aw_cond _ rfl (fun h4 => ?_) (fun h4 => ?_)
     ·replace h4 : (decide (((k15 : Nat) : Int) < (List.length r12 : Int))) = true := h4;obtain ⟨y16, t17, rfl, hx2, hd2⟩ := drop_cons hd2 (decT h4);replace h4 := decT h4;rw [s1109_l2] at hR;(try dsimp only at hR);refine aw_skip ?_;refine aw_cut_g (γ := Int) (fun g => ([(1, .g (G.sl 1 (List.map cInt a1))), (2, .g (G.ref [G.sl 3 (List.map S1122.c a0.stands), G.sl 5 (List.map S1124.c a0.turns), G.int a0.buffer, G.sl 1 (List.map cInt a0.given)])), (5, .ptr 5 0), (6, .g (G.sl 1 (List.map cInt x1))), (7, .g (G.int ((k4 : Nat) : Int))), (8, .g (G.int y5)), (9, .g (G.sl 1 (List.map cInt r11))), (10, .g (G.int g)), (14, .g (G.sl 1 (List.map cInt a1))), (15, .g (G.int (List.length a1 : Int))), (16, .g (G.int ((k4 : Nat) : Int))), (26, .g (G.sl 1 (List.map cInt r12))), (27, .g (G.int (List.length r12 : Int))), (28, .g (G.int ((k15 : Nat) : Int)))], [(5, .box [.g (G.int x3)])])) (fun g => s1109_j2 (fun k_ z0_ => s1109_l2 (fun z0_ z1_ => s1109 kf_ z0_ z1_) (fun k_ z0_ z1_ => s1109_l1 (fun z0_ z1_ => s1109 kf_ z0_ z1_) a0 a1 t6 k_ z0_ z1_) a0 a1 x1 x3 k4 y5 r11 t17 k_ z0_) k15 g = some R) ?_ ?_
      ·refine aw_block ?_;refine aw_seq ?_;refine aw_region [.p, .p, .p] ?_;refine st rfl rfl (eff_ix (f := cInt) (l := r12) (a := y16) rfl Tryz.underlying51 ty3 rfl rfl (Int.natCast_nonneg _) hx2) rfl ?_;refine st rfl rfl (eff_load rfl ty3 rfl) rfl ?_;refine st rfl rfl (eff_assigng rfl rfl) rfl ?_;refine st_nil ?_;refine aw_seq ?_;obtain ⟨y20, by20, hR⟩ := bindO_inv hR;refine aw_region [.p, .p, .p, .p, .p, .p, .p, .p, .p, .p, .p] ?_;refine st rfl rfl (eff_fieldAddr rfl fl1191_3 rfl) rfl ?_;refine st rfl rfl (eff_load rfl ty82 rfl) rfl ?_;refine st rfl rfl (eff_moveg rfl rfl) rfl ?_;refine st rfl rfl (eff_ix (f := cInt) (l := a0.given) (a := y20) rfl Tryz.underlying51 ty3 rfl rfl (ixO_nn by20) (ixO_get by20)) rfl ?_;refine st rfl rfl (eff_load rfl ty3 rfl) rfl ?_;refine st rfl rfl (eff_lss rfl rfl rfl) rfl ?_;refine st rfl rfl (eff_moveg rfl rfl) rfl ?_;refine st_g rfl rfl rfl (gb_bool _ _) (fun h => eff_moveg rfl rfl) rfl ?_;refine st_g rfl rfl rfl (gb_bool _ _) (fun h => eff_moveg rfl rfl) rfl ?_;refine st_g rfl rfl rfl (gb_bool _ _) (fun h => eff_call rfl K144 rfl (c144 a1 y16) (ag_cons (gd h rfl) (ag_cons (gd h rfl) ag_nil))) rfl ?_;refine st rfl rfl (eff_and rfl rfl rfl rfl) rfl ?_;refine st_nil ?_;refine aw_cond _ rfl (fun h8 => ?_) (fun h8 => ?_)
       ·replace h8 : ((decide (y20 < 0)) && (s144 a1 y16)) = true := h8;replace hR := condT hR h8;(try simp only [Bool.or_eq_true, Bool.and_eq_true, Bool.or_eq_false_iff, Bool.and_eq_false_iff, Bool.not_eq_true', Bool.not_eq_false', decide_eq_true_eq, decide_eq_false_iff_not] at h8);refine aw_region [.p, .p, .p] ?_;refine st rfl rfl (eff_moveg rfl rfl) rfl ?_;refine st rfl rfl (eff_addw rfl rfl rfl) rfl ?_;refine st rfl rfl (eff_assigng rfl rfl) rfl ?_;refine st_nil ?_;exact ⟨rfl, IntKind.i64.wrap (x13 + 1), ⟨rfl, rfl, rfl, rfl, rfl, rfl, rfl, rfl, rfl, rfl, rfl, rfl, rfl, rfl, trivial⟩, ⟨rfl, trivial⟩, rfl, hR, trivial⟩
       ·replace h8 : ((decide (y20 < 0)) && (s144 a1 y16)) = false := h8;replace hR := condF hR h8;(try simp only [Bool.or_eq_true, Bool.and_eq_true, Bool.or_eq_false_iff, Bool.and_eq_false_iff, Bool.not_eq_true', Bool.not_eq_false', decide_eq_true_eq, decide_eq_false_iff_not] at h8);refine aw_skip ?_;exact ⟨rfl, x13, ⟨rfl, rfl, rfl, rfl, rfl, rfl, rfl, rfl, rfl, rfl, rfl, rfl, rfl, rfl, trivial⟩, ⟨rfl, trivial⟩, rfl, hR, trivial⟩
      ·rintro x19 hR;replace hR : s1109_j2 (fun k_ z0_ => s1109_l2 (fun z0_ z1_ => s1109 kf_ z0_ z1_) (fun k_ z0_ z1_ => s1109_l1 (fun z0_ z1_ => s1109 kf_ z0_ z1_) a0 a1 t6 k_ z0_ z1_) a0 a1 x1 x3 k4 y5 r11 t17 k_ z0_) k15 x19 = some R := hR;unfold s1109_j2 at hR;refine aw_region [.p, .p] ?_;refine st rfl rfl (eff_add rfl rfl rfl (by unfold I64; omega)) rfl ?_;refine st rfl rfl (eff_moveg rfl rfl) rfl ?_;refine st_nil ?_;exact ⟨rfl, (k15 + 1, t17, x19), ⟨rfl, rfl, rfl, rfl, rfl, rfl, rfl, rfl, rfl, rfl, rfl, rfl, rfl, rfl, trivial⟩, ⟨rfl, trivial⟩, rfl, ⟨hd2, hR⟩, by simp⟩
     ·replace h4 : (decide (((k15 : Nat) : Int) < (List.length r12 : Int))) = false := h4;obtain rfl := drop_nil hd2 (decF h4);rw [s1109_l2] at hR;refine aw_exit ?_;refine aw_seq ?_;refine aw_seq ?_;refine aw_region [.p, .p, .p, .p] ?_;refine st rfl rfl (eff_moveg rfl rfl) rfl ?_;refine st rfl rfl (eff_lenM (f := cInt) (l := r11) rfl Tryz.underlying51 rfl) rfl ?_;refine st rfl rfl (eff_moveg rfl rfl) rfl ?_;refine st rfl rfl (eff_gtr rfl rfl rfl) rfl ?_;refine st_nil ?_;refine aw_cond _ rfl (fun h6 => ?_) (fun h6 => ?_)
      ·replace h6 : (decide (x13 < (List.length r11 : Int))) = true := h6;replace hR := condT hR h6;(try simp only [Bool.or_eq_true, Bool.and_eq_true, Bool.or_eq_false_iff, Bool.and_eq_false_iff, Bool.not_eq_true', Bool.not_eq_false', decide_eq_true_eq, decide_eq_false_iff_not] at h6);refine aw_seq ?_;obtain ⟨r18, br18, hR⟩ := bindO_inv hR;refine aw_draw2 [.pn 52, .pn 52, .w, .pn 52, .pn 52, .pn 52, .kn 52, .pn 52, .pn 52] (by kernel_rfl) ?_;refine st_pn rfl rfl (eff_loadA rfl ty1191 rfl rfl rfl) rfl rfl rfl ?_;refine st_pn rfl rfl (eff_moveg rfl rfl) rfl rfl rfl ?_;refine st_w rfl rfl (eff_callNL (f0 := cInt) (l := a1) 52 rfl K1145 rfl (n1145 a1 (by omega)) (ag_cons rfl ag_nil) rfl) rfl ?_;refine st_pn rfl rfl (eff_moveg rfl rfl) rfl rfl rfl ?_;refine st_pn rfl rfl (eff_moveg rfl rfl) rfl rfl rfl ?_;refine st_pn rfl rfl (eff_add rfl rfl rfl (by unfold I64; (try dsimp only); omega)) rfl rfl rfl ?_;refine st_kn rfl rfl (eff_giveL (f0 := cInt) (l := a1) (l' := (s1144 a1 ((k4 : Nat) : Int) (((k4 : Nat) : Int) + 1)).1) (n := (s1144 a1 ((k4 : Nat) : Int) (((k4 : Nat) : Int) + 1)).2) 52 rfl K1144 rfl (c1144 a1 ((k4 : Nat) : Int) (((k4 : Nat) : Int) + 1) (by first | assumption | omega | (simp [copyL_len]; done) | (simp [copyL_len]; omega)) (by first | assumption | omega | (simp [copyL_len]; done) | (simp [copyL_len]; omega)) (by first | assumption | omega | (simp [copyL_len]; done) | (simp [copyL_len]; omega))) (at_cons rfl rfl (at_cons rfl rfl (at_cons rfl rfl at_nil))) rfl (refsN rfl) (give1144 a1 ((k4 : Nat) : Int) (((k4 : Nat) : Int) + 1) (by omega) (by omega) (by omega))) rfl ?_;refine st_pn rfl rfl (eff_call rfl K1109 rfl (ih a0 (List.take (s1144 a1 ((k4 : Nat) : Int) (((k4 : Nat) : Int) + 1)).2 (s1144 a1 ((k4 : Nat) : Int) (((k4 : Nat) : Int) + 1)).1) hb hb2 hb3 (del_le a1 _ _ (by omega) (by omega) (by omega) hb4) br18) (ag_cons rfl (ag_cons rfl ag_nil))) rfl rfl rfl ?_;refine st_pn rfl rfl (eff_assigng rfl rfl) rfl rfl rfl ?_;refine st_nil ?_;refine aw_ret ?_;obtain rfl := Option.some.inj hR;exact res_c rfl (rv_g rfl)
      ·replace h6 : (decide (x13 < (List.length r11 : Int))) = false := h6;replace hR := condF hR h6;(try simp only [Bool.or_eq_true, Bool.and_eq_true, Bool.or_eq_false_iff, Bool.and_eq_false_iff, Bool.not_eq_true', Bool.not_eq_false', decide_eq_true_eq, decide_eq_false_iff_not] at h6);refine aw_skip ?_;refine aw_seq ?_;refine aw_region [.r, .p, .p, .p, .p, .p, .p, .p, .p] ?_;refine st_r rfl rfl (eff_loadO rfl ty3 rfl rfl rfl) rfl ?_;refine st rfl rfl (eff_lss rfl rfl rfl) rfl ?_;refine st rfl rfl (eff_moveg rfl rfl) rfl ?_;refine st_g rfl rfl rfl (gb_bool _ _) (fun h => eff_moveg rfl rfl) rfl ?_;refine st_g rfl rfl rfl (gb_bool _ _) (fun h => eff_lenM (f := cInt) (l := r11) rfl Tryz.underlying51 (gd h rfl)) rfl ?_;refine st_g rfl rfl rfl (gb_bool _ _) (fun h => eff_moveg rfl rfl) rfl ?_;refine st_g rfl rfl rfl (gb_bool _ _) (fun h => eff_lenM (f := cInt) (l := x1) rfl Tryz.underlying51 (gd h rfl)) rfl ?_;refine st_g rfl rfl rfl (gb_bool _ _) (fun h => eff_lss rfl (gd h rfl) (gd h rfl)) rfl ?_;refine st rfl rfl (eff_or rfl rfl rfl rfl) rfl ?_;refine st_nil ?_;refine aw_cond _ rfl (fun h7 => ?_) (fun h7 => ?_)
       ·replace h7 : ((decide (x3 < 0)) || (decide ((List.length r11 : Int) < (List.length x1 : Int)))) = true := h7;replace hR := condT hR h7;(try simp only [Bool.or_eq_true, Bool.and_eq_true, Bool.or_eq_false_iff, Bool.and_eq_false_iff, Bool.not_eq_true', Bool.not_eq_false', decide_eq_true_eq, decide_eq_false_iff_not] at h7);refine aw_region [.p, .p, .w, .p] ?_;refine st rfl rfl (eff_moveg rfl rfl) rfl ?_;refine st rfl rfl (eff_moveg rfl rfl) rfl ?_;refine st_wn rfl rfl (eff_store (tv := .g (G.int y5)) rfl ty3 rfl rfl rfl rfl rfl) ?_;refine st rfl rfl (eff_assigng rfl rfl) rfl ?_;refine st_nil ?_;exact ⟨rfl, (r11, y5), ⟨rfl, rfl, rfl, rfl, rfl, rfl, rfl, trivial⟩, ⟨rfl, trivial⟩, rfl, hR, trivial⟩
       ·replace h7 : ((decide (x3 < 0)) || (decide ((List.length r11 : Int) < (List.length x1 : Int)))) = false := h7;replace hR := condF hR h7;(try simp only [Bool.or_eq_true, Bool.and_eq_true, Bool.or_eq_false_iff, Bool.and_eq_false_iff, Bool.not_eq_true', Bool.not_eq_false', decide_eq_true_eq, decide_eq_false_iff_not] at h7);refine aw_skip ?_;exact ⟨rfl, (x1, x3), ⟨rfl, rfl, rfl, rfl, rfl, rfl, rfl, trivial⟩, ⟨rfl, trivial⟩, rfl, hR, trivial⟩
   ·rintro ⟨x9, x10⟩ hR;replace hR : s1109_j1 (fun k_ z0_ z1_ => s1109_l1 (fun z0_ z1_ => s1109 kf_ z0_ z1_) a0 a1 t6 k_ z0_ z1_) k4 x9 x10 = some R := hR;unfold s1109_j1 at hR;refine aw_region [.p, .p] ?_;refine st rfl rfl (eff_add rfl rfl rfl (by unfold I64; omega)) rfl ?_;refine st rfl rfl (eff_moveg rfl rfl) rfl ?_;refine st_nil ?_;exact ⟨rfl, (k4 + 1, t6, x9, x10), ⟨rfl, rfl, rfl, rfl, rfl, rfl, rfl, trivial⟩, ⟨rfl, trivial⟩, rfl, ⟨hd, hR⟩, by simp⟩
  ·replace h1 : (decide (((k4 : Nat) : Int) < (List.length a1 : Int))) = false := h1;obtain rfl := drop_nil hd (decF h1);rw [s1109_l1] at hR;refine aw_exit ?_;refine aw_seq ?_;refine aw_seq ?_;refine aw_region [.r, .p] ?_;refine st_r rfl rfl (eff_loadO rfl ty3 rfl rfl rfl) rfl ?_;refine st rfl rfl (eff_lss rfl rfl rfl) rfl ?_;refine st_nil ?_;refine aw_cond _ rfl (fun h3 => ?_) (fun h3 => ?_)
   ·replace h3 : (decide (x3 < 0)) = true := h3;replace hR := condT hR h3;(try simp only [Bool.or_eq_true, Bool.and_eq_true, Bool.or_eq_false_iff, Bool.and_eq_false_iff, Bool.not_eq_true', Bool.not_eq_false', decide_eq_true_eq, decide_eq_false_iff_not] at h3);refine aw_seq ?_;refine aw_region [.p] ?_;refine st rfl rfl (eff_assigng rfl rfl) rfl ?_;refine st_nil ?_;refine aw_ret ?_;obtain rfl := Option.some.inj hR;exact res_c rfl (rv_g rfl)
   ·replace h3 : (decide (x3 < 0)) = false := h3;replace hR := condF hR h3;(try simp only [Bool.or_eq_true, Bool.and_eq_true, Bool.or_eq_false_iff, Bool.and_eq_false_iff, Bool.not_eq_true', Bool.not_eq_false', decide_eq_true_eq, decide_eq_false_iff_not] at h3);refine aw_skip ?_;refine aw_seq ?_;refine aw_freeze (l := [(1, .g (G.sl 1 (List.map cInt a1))), (2, .g (G.ref [G.sl 3 (List.map S1122.c a0.stands), G.sl 5 (List.map S1124.c a0.turns), G.int a0.buffer, G.sl 1 (List.map cInt a0.given)])), (5, .g (G.ref [G.int x3])), (6, .g (G.sl 1 (List.map cInt x1)))]) (m := []) 5 rfl ⟨.inl ⟨rfl, rfl⟩, .inl ⟨rfl, rfl⟩, .inr (frz_box rfl), .inl ⟨rfl, rfl⟩, trivial⟩ trivial rfl rfl ?_;obtain ⟨r7, br7, hR⟩ := bindO_inv hR;refine aw_region [.p, .w, .p, .k, .w, .w] ?_;refine st rfl rfl (eff_moveg rfl rfl) rfl ?_;refine st_w rfl rfl (eff_callNL (f0 := cInt) (l := a1) 73 rfl K1145 rfl (n1145 a1 (by omega)) (ag_cons rfl ag_nil) rfl) rfl ?_;refine st rfl rfl (eff_makeF rfl rfl rfl) rfl ?_;refine st_k rfl rfl (eff_giveL (f0 := cInt) (l := a1) (l' := r7.1) (n := r7.2) 73 rfl K1146 rfl (c1146 a1 (fun x0 => s1147 x0 x3) fnis_fn K1147 (fun x0 => c1147 x0 x3) br7) (at_cons rfl rfl (at_cons rfl rfl at_nil)) rfl (refsN rfl) (give1146 br7)) rfl ?_;refine st_w rfl rfl (eff_alloc 13 rfl z82 rfl rfl) rfl ?_;refine st_wn rfl rfl (eff_store (tv := .g (G.sl 1 (List.map cInt (List.take r7.2 r7.1)))) rfl ty82 rfl rfl rfl rfl rfl) ?_;refine st_nil ?_;refine aw_seq ?_;refine aw_freeze (l := [(2, .g (G.ref [G.sl 3 (List.map S1122.c a0.stands), G.sl 5 (List.map S1124.c a0.turns), G.int a0.buffer, G.sl 1 (List.map cInt a0.given)])), (5, .g (G.ref [G.int x3])), (6, .g (G.sl 1 (List.map cInt x1))), (13, .g (G.ref [G.sl 1 (List.map cInt (List.take r7.2 r7.1))]))]) (m := []) 13 rfl ⟨.inl ⟨rfl, rfl⟩, .inl ⟨rfl, rfl⟩, .inl ⟨rfl, rfl⟩, .inr (frz_box rfl), trivial⟩ trivial rfl rfl ?_;obtain ⟨r8, br8, hR⟩ := bindO_inv hR;refine aw_region [.p, .p, .p, .p] ?_;refine st rfl rfl (eff_moveg rfl rfl) rfl ?_;refine st rfl rfl (eff_makeF rfl rfl rfl) rfl ?_;refine st rfl rfl (eff_call rfl K1140 rfl (c1140p x1 (fun x0 => s1148 (s1109 kf_) x0 a0 x3 (List.take r7.2 r7.1)) fnis_fn K1148 (fun x0 r_ h_ => c1148 (s1109 kf_) x0 a0 x3 (List.take r7.2 r7.1) (fun q r R g1 g2 g3 g4 h => ih q r g1 g2 g3 g4 h) hb hb2 hb3 (del_rest br7 hb4) h_) br8) (ag_cons rfl (ag_cons rfl ag_nil))) rfl ?_;refine st rfl rfl (eff_assigng rfl rfl) rfl ?_;refine st_nil ?_;refine aw_ret ?_;obtain rfl := Option.some.inj hR;exact res_c rfl (rv_g rfl)
section
variable {E : Env} {o : Oper} {ev : Operand → TV} {t t' : TypeId} {x y : Operand}
theorem eff_uand {a c : Int} (ho : o.op = .binOp .and t x y t') (hx : ev x = .g (.lit (.int .u64 a))) (hy : ev y = .g (.lit (.int .u64 4294967295))) (h0 : 0 ≤ a) (h1 : a ≤ 4294967295) (hc : a = c) (mem : Mem) : Eff E o mem ev (.g (.lit (.int .u64 c))) := by
 subst hc
 have e : IntKind.u64.wrap ((BitVec.ofInt 64 a &&& BitVec.ofInt 64 4294967295).toNat : Int) = a := by
  have h2 : (BitVec.ofInt 64 a &&& BitVec.ofInt 64 4294967295).toNat = a.toNat := by
   rw [BitVec.toNat_and, BitVec.toNat_ofInt, BitVec.toNat_ofInt]
   have e1 : (a % ((2 ^ 64 : Nat) : Int)).toNat = a.toNat := by omega
   have e2 : ((4294967295 : Int) % ((2 ^ 64 : Nat) : Int)).toNat = 2 ^ 32 - 1 := by decide
   rw [e1, e2, Nat.and_two_pow_sub_one_eq_mod]
   omega
  rw [h2, Int.toNat_of_nonneg h0, wrap_u64 h0 (by omega)]
 have := eff_int (E := E) (o := o) (ev := ev) (op := .and) (t := t) (x := x) (y := y) (t' := t') (k := .u64) (a := a) (b := 4294967295) (r := .int .u64 (IntKind.u64.wrap ((BitVec.ofInt 64 a &&& BitVec.ofInt 64 4294967295).toNat : Int))) ho hx hy rfl mem
 rwa [e] at this
theorem eff_ushr {a c : Int} (ho : o.op = .binOp .shr t x y t') (hx : ev x = .g (.lit (.int .u64 a))) (hy : ev y = .g (.lit (.int .u64 32))) (h0 : 0 ≤ a) (h1 : a ≤ 4294967295) (hc : 0 = c) (mem : Mem) : Eff E o mem ev (.g (.lit (.int .u64 c))) := by
 subst hc
 exact eff_bin ho hx hy (fun w => ⟨.int .u64 0, by
  have h2 : Int.fdiv a (2 ^ min (32 : Int).toNat IntKind.u64.bits) = 0 := by
   rw [Int.fdiv_eq_ediv_of_nonneg a (by decide)]
   exact Int.ediv_eq_zero_of_lt h0 (by
    have : (2 : Int) ^ min (32 : Int).toNat IntKind.u64.bits = 4294967296 := by decide
    omega)
  simp only [eqGuard, binOp, Op.shift, h2]
  rfl, fun _ => rfl⟩) mem
theorem eff_umul {a b c : Int} (ho : o.op = .binOp .mul t x y t') (hx : ev x = .g (.lit (.int .u64 a))) (hy : ev y = .g (.lit (.int .u64 b))) (hc : a * b = c) (h0 : 0 ≤ c) (h1 : c ≤ 9223372036854775807) (mem : Mem) : Eff E o mem ev (.g (.lit (.int .u64 c))) := by
 have := eff_mulw (E := E) ho hx hy mem
 rwa [hc, wrap_u64 h0 h1] at this
theorem eff_uadd {a b c : Int} (ho : o.op = .binOp .add t x y t') (hx : ev x = .g (.lit (.int .u64 a))) (hy : ev y = .g (.lit (.int .u64 b))) (hc : a + b = c) (h0 : 0 ≤ c) (h1 : c ≤ 9223372036854775807) (mem : Mem) : Eff E o mem ev (.g (.lit (.int .u64 c))) := by
 have := eff_addw (E := E) ho hx hy mem
 rwa [hc, wrap_u64 h0 h1] at this
end
section
variable {E : Env} {w0 : World} {M0 : Nat → Prop}
theorem eff_copyW {α : Type} {o : Oper} {mem : Mem} {ev : Operand → TV} {t t2 e : TypeId} {x y : Operand} {k by_ id N c : Nat} {d s : List α} {f : α → List G} (ho : o.op = .call ⟨.builtin .copy, #[x, y], #[t, t2]⟩) (ha : appK E.P t = some (e, k + 1, by_)) (hx : ev x = .osl id (k + 1) c N) (hN : d.length = N) (hcN : c < N)
  (hb : lookO mem id = some (.arr e (k + 1) (d.map f))) (hsrc : SrcT E mem (k + 1) (s.map f) (ev y)) : EffW E o mem ev (.g (.int ((min s.length (N - c) : Nat) : Int))) ((id, .arr e (k + 1) ((d.take c ++ s.take (min s.length (N - c)) ++ d.drop (c + min s.length (N - c))).map f)) :: mem) none := by
 intro w0 M0 ρ w e' hm he;subst hN;have h1 := he x (by rw [ho]; simp [Op.operands, Call.operands]);rw [hx] at h1;have h2 := he y (by rw [ho]; simp [Op.operands, Call.operands]);obtain ⟨i, z, t1, t2', t3, t4, t5, t6⟩ := appK_spec ha;obtain ⟨news, n1, nl, a, cp, hv, ncell⟩ := hsrc.2 w0 M0 ρ w _ hm h2;have hmin : (Nat.min s.length (d.length - c)) = min s.length (d.length - c) := rfl
 have hnl : news.length = s.length * (k + 1) := by rw [nl, List.length_map]
 rw [List.length_map] at hv;generalize hmm : min s.length (d.length - c) = m at *
 have hms : m ≤ s.length := by omega
 have hmd : c + m ≤ d.length := by omega
 let cs := news.take (m * (k + 1))
 have hle : m * (k + 1) ≤ s.length * (k + 1) := Nat.mul_le_mul_right _ hms
 have hcs : cs.length = m * (k + 1) := by simp only [cs, List.length_take]; omega
 have hone : ∀ u ∈ cs, u.oneCell' = true := fun u hu => n1.one u (List.mem_of_mem_take hu)
 have hfirst : (Builtin.firstCells (k + 1) m (.slice a s.length cp)).run E.P w = .ok cs.toArray w := by
  by_cases h0 : m = 0
  ·have : cs = [] := List.eq_nil_of_length_eq_zero (by rw [hcs, h0]; simp);rw [h0, this]
   cases a with
   | none => simp [Builtin.firstCells]
   | some a => simp [Builtin.firstCells, loadCells, loadCellsFrom]
  ·rcases ncell with h | ⟨b, o', rfl, hcell⟩
   ·rw [List.length_map] at h; omega
   ·refine run_firstCells_some (P := E.P) w (k + 1) _ ⟨b, o', none⟩ _ cp cs hcs ?_;intro j v hj;rw [Addr.add_lit];refine hcell j v ?_;simp only [cs, List.getElem?_take] at hj
    split at hj
    ·exact hj
    ·cases hj
 have hlenS : (Builtin.lenOf (.slice a s.length cp)).run E.P w = .ok s.length w := by simp [Builtin.lenOf]
 rcases hm.blk id _ hb with ⟨g1, g2⟩ | ⟨ow, cur, g1, g2, g3, g4, g5, g6, g7⟩
 ·have hd0 : d = [] := by simpa using g2
  rw [hd0] at hcN; simp at hcN
 rw [List.length_map] at g3 g7
 have hex : e' x = .slice (some ⟨ow.b, ow.o + c * (k + 1), none⟩) (d.length - c) (ow.cap - c) := by
  rcases h1 with ⟨h, _⟩ | ⟨ow', h, _, h4, p, h5, h6⟩
  ·rw [g1] at h; cases h
  ·have : ow' = ow := by rw [g1] at h; simpa using h.symm
   subst this;rw [h5, h6 (by omega)]
 have hcap : ow.o + ow.cap * (k + 1) ≤ cur.size := g5.resolve_left (by omega);have hNk : d.length * (k + 1) ≤ ow.cap * (k + 1) := Nat.mul_le_mul_right _ g3;have hmk : (c + m) * (k + 1) ≤ d.length * (k + 1) := Nat.mul_le_mul_right _ hmd;have hmul : (c + m) * (k + 1) = c * (k + 1) + m * (k + 1) := Nat.add_mul _ _ _;have hcl : cur.toList.length = cur.size := Array.length_toList;obtain ⟨w', cur', r1, r2, r3, r4, r5, r6, r7, r8⟩ := run_storeCells (P := E.P) ow.b (ow.o + c * (k + 1)) e cs 0 cur w g2 (by omega) hone
 have hrun : (execOp e' o).run E.P w = .ok (.value (.int .i64 ((m : Nat) : Int))) w' := by
  have hmm2 : Nat.min s.length (d.length - c) = m := hmm
  have hmm3 : min (d.length - c) s.length = m := by omega
  simp [execOp, ho, resolve, invoke, builtin, Builtin.copy_, hex, hv, run_underlying t1, hlenS, sizeOf, typeInfo, t2', t4, goInt, hmm, hmm2, hmm3, hfirst, r1]
 rw [hrun];rw [Nat.add_zero] at r3
 have rsz : cur'.size = cur.size := by
  rw [← Array.length_toList, r3, ← Array.length_toList (xs := cur)];simp only [setAt, List.length_append, List.length_take, List.length_drop]
  omega
 have hdf : Diff ρ id w w' := ⟨r6, r7, r8, by omega, fun q _ hne => r4 q (hne ow g1)⟩
 have hM : ∀ q, q < w.heap.size → owned M0 (rhoSet ρ id (some ow)) q → owned M0 ρ q := by
  rintro q hq (h | ⟨j, o, h, rfl⟩)
  ·exact .inl h
  ·by_cases hj : j = id
   ·subst hj; rw [rhoSet_same] at h; cases h; exact .inr ⟨j, ow, g1, rfl⟩
   ·exact .inr ⟨j, o, by simpa [rhoSet, hj] using h, rfl⟩
 have hh : ∀ q, q < w.heap.size → ¬ owned M0 ρ q → w'.heap[q]? = w.heap[q]? := fun q _ hno => r4 q fun he => hno (.inr ⟨id, ow, g1, he.symm⟩)
 have hlen : ((d.take c ++ s.take m ++ d.drop (c + m)).map f).length = d.length := by simp; omega
 have hrow : (cur'.toList.drop ow.o).take (d.length * (k + 1)) = ((cur.toList.drop ow.o).take (d.length * (k + 1))).take (c * (k + 1)) ++ cs ++ ((cur.toList.drop ow.o).take (d.length * (k + 1))).drop ((c + m) * (k + 1)) := by
  rw [r3, hmul, ← hcs];exact set_row (by rw [hcs]; omega) (by rw [hcl]; omega)
 have hsk : ∀ x ∈ s.map f, x.length = k + 1 := hsrc.1
 have hfits : Fits w' (owned M0 (rhoSet ρ id (some ow))) ((d.take c ++ s.take m ++ d.drop (c + m)).map f).flatten ((cur'.toList.drop ow.o).take (d.length * (k + 1))) := by
  rw [hrow, List.map_append, List.map_append, List.flatten_append, List.flatten_append, List.map_take, List.map_take, List.map_drop, ← flatten_take (k := k + 1) c g6, ← flatten_take (k := k + 1) m hsk, ← flatten_drop (k := k + 1) (c + m) g6];exact (((g7.take _).append (n1.take _)).append (g7.drop _)).mono hh hM
 obtain ⟨k1, k2⟩ := mrel_upd (id := id) (x := some ow) (blk' := .arr e (k + 1) ((d.take c ++ s.take m ++ d.drop (c + m)).map f)) none hm hdf (fun o ho => by cases ho; exact ⟨.inr ⟨ow, g1, rfl⟩, by rw [r5]; exact (hm.fresh id ow g1).2⟩) (.inr ⟨rfl, .inr g1⟩) (fun _ b _ _ => noref_none b) (.inl rfl)
  (.inr ⟨ow, cur', rhoSet_same _ _ _, r2, by rw [hlen]; exact g3, g4, g5.imp (fun h => h) (fun h => by rw [rsz]; exact h), fun q hq => by
    rw [List.map_append, List.map_append] at hq
    rcases List.mem_append.1 hq with hq | hq
    ·rcases List.mem_append.1 hq with hq | hq
     ·rw [List.map_take] at hq; exact g6 q (List.mem_of_mem_take hq)
     ·rw [List.map_take] at hq; exact hsk q (List.mem_of_mem_take hq)
    ·rw [List.map_drop] at hq; exact g6 q (List.mem_of_mem_drop hq), by rw [hlen]; exact hfits⟩)
 exact ⟨_, k1, k2, rfl⟩
theorem cpy_len {α : Type} {d s : List α} {c N : Nat} (hN : d.length = N) (hc : c < N) : (d.take c ++ s.take (min s.length (N - c)) ++ d.drop (c + min s.length (N - c))).length = N := by simp; omega
end
end Go.Sim
set_option maxRecDepth 10000
namespace Go.Sim
open Go.Proofs
def s1169 (a0 : Int) (a1 : Int) : Int × Int :=
 (0, a0 * a1)
theorem c1169 {g : List (Nat × List Value)} (a0 : Int) (a1 : Int)  (hx0 : 0 ≤ a0) (hx1 : a0 ≤ 65535) (hy0 : 0 ≤ a1) (hy1 : a1 ≤ 65535) (hm0 : 0 ≤ a0 * a1) (hm1 : a0 * a1 ≤ 4294967295)  : Con (EG g) 169 [G.lit (.int .u64 a0), G.lit (.int .u64 a1)] (G.tup [G.lit (.int .u64 ((s1169 a0 a1).1)), G.lit (.int .u64 ((s1169 a0 a1).2))]) := by
 generalize hR : s1169 a0 a1 = R;unfold s1169 at hR;refine con_of_aw Tryz.func169 rfl rfl fun w0 M0 => ?_;refine aw_seq ?_;refine aw_region [.p, .p] ?_;refine st rfl rfl (eff_assigng rfl rfl) rfl ?_;refine st rfl rfl (eff_assigng rfl rfl) rfl ?_;refine st_nil ?_;refine aw_seq ?_;refine aw_region [.p, .p, .p] ?_;refine st rfl rfl (eff_moveg rfl rfl) rfl ?_;refine st rfl rfl (eff_uand rfl rfl rfl (by omega) (by omega) rfl) rfl ?_;refine st rfl rfl (eff_assigng rfl rfl) rfl ?_;refine st_nil ?_;refine aw_seq ?_;refine aw_region [.p, .p, .p] ?_;refine st rfl rfl (eff_moveg rfl rfl) rfl ?_;refine st rfl rfl (eff_ushr rfl rfl rfl (by omega) (by omega) rfl) rfl ?_;refine st rfl rfl (eff_assigng rfl rfl) rfl ?_;refine st_nil ?_;refine aw_seq ?_;refine aw_region [.p, .p, .p] ?_;refine st rfl rfl (eff_moveg rfl rfl) rfl ?_;refine st rfl rfl (eff_uand rfl rfl rfl (by omega) (by omega) rfl) rfl ?_;refine st rfl rfl (eff_assigng rfl rfl) rfl ?_;refine st_nil ?_;refine aw_seq ?_;refine aw_region [.p, .p, .p] ?_;refine st rfl rfl (eff_moveg rfl rfl) rfl ?_;refine st rfl rfl (eff_ushr rfl rfl rfl (by omega) (by omega) rfl) rfl ?_;refine st rfl rfl (eff_assigng rfl rfl) rfl ?_;refine st_nil ?_;refine aw_seq ?_;refine aw_region [.p, .p, .p, .p] ?_;refine st rfl rfl (eff_moveg rfl rfl) rfl ?_;refine st rfl rfl (eff_moveg rfl rfl) rfl ?_;refine st rfl rfl (eff_umul rfl rfl rfl rfl hm0 (by omega)) rfl ?_;refine st rfl rfl (eff_assigng rfl rfl) rfl ?_;refine st_nil ?_;refine aw_seq ?_;refine aw_region [.p, .p, .p, .p, .p, .p, .p] ?_;refine st rfl rfl (eff_moveg rfl rfl) rfl ?_;refine st rfl rfl (eff_moveg rfl rfl) rfl ?_;refine st rfl rfl (eff_umul rfl rfl rfl (Int.zero_mul _) (by omega) (by omega)) rfl ?_;refine st rfl rfl (eff_moveg rfl rfl) rfl ?_;refine st rfl rfl (eff_ushr rfl rfl rfl (by omega) (by omega) rfl) rfl ?_;refine st rfl rfl (eff_uadd rfl rfl rfl rfl (by omega) (by omega)) rfl ?_;refine st rfl rfl (eff_assigng rfl rfl) rfl ?_;refine st_nil ?_;refine aw_seq ?_;refine aw_region [.p, .p, .p] ?_;refine st rfl rfl (eff_moveg rfl rfl) rfl ?_;refine st rfl rfl (eff_uand rfl rfl rfl (by omega) (by omega) rfl) rfl ?_;refine st rfl rfl (eff_assigng rfl rfl) rfl ?_;refine st_nil ?_;refine aw_seq ?_;refine aw_region [.p, .p, .p] ?_;refine st rfl rfl (eff_moveg rfl rfl) rfl ?_;refine st rfl rfl (eff_ushr rfl rfl rfl (by omega) (by omega) rfl) rfl ?_;refine st rfl rfl (eff_assigng rfl rfl) rfl ?_;refine st_nil ?_;refine aw_seq ?_;refine aw_region [.p, .p, .p, .p, .p, .p] ?_;refine st rfl rfl (eff_moveg rfl rfl) rfl ?_;refine st rfl rfl (eff_moveg rfl rfl) rfl ?_;refine st rfl rfl (eff_moveg rfl rfl) rfl ?_;refine st rfl rfl (eff_umul rfl rfl rfl (Int.mul_zero _) (by omega) (by omega)) rfl ?_;refine st rfl rfl (eff_uadd rfl rfl rfl rfl (by omega) (by omega)) rfl ?_;refine st rfl rfl (eff_assigng rfl rfl) rfl ?_;refine st_nil ?_;refine aw_seq ?_;refine aw_region [.p, .p, .p, .p, .p, .p, .p, .p, .p] ?_;refine st rfl rfl (eff_moveg rfl rfl) rfl ?_;refine st rfl rfl (eff_moveg rfl rfl) rfl ?_;refine st rfl rfl (eff_umul rfl rfl rfl rfl (by omega) (by omega)) rfl ?_;refine st rfl rfl (eff_moveg rfl rfl) rfl ?_;refine st rfl rfl (eff_uadd rfl rfl rfl rfl (by omega) (by omega)) rfl ?_;refine st rfl rfl (eff_moveg rfl rfl) rfl ?_;refine st rfl rfl (eff_ushr rfl rfl rfl (by omega) (by omega) rfl) rfl ?_;refine st rfl rfl (eff_uadd rfl rfl rfl rfl (by omega) (by omega)) rfl ?_;refine st rfl rfl (eff_assigng rfl rfl) rfl ?_;refine st_nil ?_;refine aw_seq ?_;refine aw_region [.p, .p, .p, .p] ?_;refine st rfl rfl (eff_moveg rfl rfl) rfl ?_;refine st rfl rfl (eff_moveg rfl rfl) rfl ?_;refine st rfl rfl (eff_umul rfl rfl rfl rfl hm0 (by omega)) rfl ?_;refine st rfl rfl (eff_assigng rfl rfl) rfl ?_;refine st_nil ?_;refine aw_ret ?_;subst hR;exact resN rfl ⟨rv_g rfl, rv_g rfl, trivial⟩ (by simp)
def s1139 (a0 : Int) (a1 : Int) : Int × Int :=
 ((s1169 a0 a1).1, (s1169 a0 a1).2)
theorem c1139 {g : List (Nat × List Value)} (a0 : Int) (a1 : Int)  (hx0 : 0 ≤ a0) (hx1 : a0 ≤ 65535) (hy0 : 0 ≤ a1) (hy1 : a1 ≤ 65535) (hm0 : 0 ≤ a0 * a1) (hm1 : a0 * a1 ≤ 4294967295)  : Con (EG g) 139 [G.lit (.int .u64 a0), G.lit (.int .u64 a1)] (G.tup [G.lit (.int .u64 ((s1139 a0 a1).1)), G.lit (.int .u64 ((s1139 a0 a1).2))]) := by
 generalize hR : s1139 a0 a1 = R;unfold s1139 at hR;refine con_of_aw Tryz.func139 rfl rfl fun w0 M0 => ?_;refine aw_seq ?_;refine aw_region [.p, .p] ?_;refine st rfl rfl (eff_assigng rfl rfl) rfl ?_;refine st rfl rfl (eff_assigng rfl rfl) rfl ?_;refine st_nil ?_;refine aw_seq ?_;refine aw_cond _ rfl (fun h1 => ?_) (fun h1 => ?_)
 ·exfalso; exact Bool.noConfusion h1
 ·replace h1 : (false) = false := h1;(try simp only [Bool.or_eq_true, Bool.and_eq_true, Bool.or_eq_false_iff, Bool.and_eq_false_iff, Bool.not_eq_true', Bool.not_eq_false', decide_eq_true_eq, decide_eq_false_iff_not] at h1);refine aw_skip ?_;refine aw_seq ?_;refine aw_region [.p, .p, .p, .p, .p, .p, .p, .p] ?_;refine st rfl rfl (eff_moveg rfl rfl) rfl ?_;refine st rfl rfl (eff_moveg rfl rfl) rfl ?_;refine st rfl rfl (eff_call rfl K1169 rfl (c1169 a0 a1 (by first | assumption | omega | (simp [copyL_len]; done) | (simp [copyL_len]; omega)) (by first | assumption | omega | (simp [copyL_len]; done) | (simp [copyL_len]; omega)) (by first | assumption | omega | (simp [copyL_len]; done) | (simp [copyL_len]; omega)) (by first | assumption | omega | (simp [copyL_len]; done) | (simp [copyL_len]; omega)) (by first | assumption | omega | (simp [copyL_len]; done) | (simp [copyL_len]; omega)) (by first | assumption | omega | (simp [copyL_len]; done) | (simp [copyL_len]; omega))) (ag_cons rfl (ag_cons rfl ag_nil))) rfl ?_;refine st rfl rfl (eff_moveg rfl rfl) rfl ?_;refine st rfl rfl (eff_extract rfl rfl rfl) rfl ?_;refine st rfl rfl (eff_extract rfl rfl rfl) rfl ?_;refine st rfl rfl (eff_assigng rfl rfl) rfl ?_;refine st rfl rfl (eff_assigng rfl rfl) rfl ?_;refine st_nil ?_;refine aw_seq ?_;refine aw_region [.p, .p, .p, .p] ?_;refine st rfl rfl (eff_moveg rfl rfl) rfl ?_;refine st rfl rfl (eff_moveg rfl rfl) rfl ?_;refine st rfl rfl (eff_assigng rfl rfl) rfl ?_;refine st rfl rfl (eff_assigng rfl rfl) rfl ?_;refine st_nil ?_;refine aw_ret ?_;subst hR;exact resN rfl ⟨rv_g rfl, rv_g rfl, trivial⟩ (by simp)
theorem mulR {g : List (Nat × List Value)} {n : Nat} {a : Int} (hl : n = 1) (h0 : 0 ≤ a) (h1 : a ≤ 8) : Con (EG g) 139 [G.lit (.int .u64 (n : Int)), G.lit (.int .u64 a)] (G.tup [G.lit (.int .u64 (a - a)), G.lit (.int .u64 a)]) := by
 subst hl
 have e : ((1 : Nat) : Int) * a = a := by rw [show ((1 : Nat) : Int) = 1 from rfl, Int.one_mul]
 have := c1139 (g := g) ((1 : Nat) : Int) a (by omega) (by omega) h0 (by omega) (by rw [e]; exact h0) (by rw [e]; omega)
 have e2 : s1139 ((1 : Nat) : Int) a = (0, a) := by
  show ((0 : Int), ((1 : Nat) : Int) * a) = _;rw [e]
 rw [e2] at this;rw [Int.sub_self];exact this
end Go.Sim
set_option maxRecDepth 10000
namespace Go.Sim
open Go.Proofs
def s1105_l1 (a1 : Int) : Nat → Int → (List Int) → Option (List Int)
 | 0, _, _ => none
 | k4 + 1, x1, x2 => (bif decide (x1 < (Int.toNat a1 : Int)) then s1105_l1 a1 k4 (x1 + ((min (List.length (List.take (Int.toNat x1) x2)) ((Int.toNat a1) - (Int.toNat x1)) : Nat) : Int)) (List.take (Int.toNat x1) x2 ++ List.take (min (List.length (List.take (Int.toNat x1) x2)) ((Int.toNat a1) - (Int.toNat x1))) (List.take (Int.toNat x1) x2) ++ List.drop ((Int.toNat x1) + min (List.length (List.take (Int.toNat x1) x2)) ((Int.toNat a1) - (Int.toNat x1))) x2) else some x2)
def s1105_j1 (a0 : List Int) (a1 : Int)  : Option (List Int) :=
 s1105_l1 a1 ((((Int.toNat a1 : Int) - ((min (List.length a0) (List.length (List.replicate (Int.toNat a1) (0 : Int))) : Nat) : Int)).toNat) + 1) ((min (List.length a0) (List.length (List.replicate (Int.toNat a1) (0 : Int))) : Nat) : Int) (copyL (List.replicate (Int.toNat a1) (0 : Int)) a0)
def s1105_j2 (a0 : List Int) (a1 : Int)  : Option (List Int) :=
 s1105_j1 a0 a1
def s1105 (a0 : List Int) (a1 : Int) : Option (List Int) :=
 s1105_j2 a0 a1
theorem c1105 {g : List (Nat × List Value)} (a0 : List Int) (a1 : Int) {R : List Int}  (hl : a0.length = 1) (hn : 0 ≤ a1) (hn2 : a1 ≤ 8) (hR : s1105 a0 a1 = some R) : Con (EG g) 105 [G.sl 1 (List.map cInt a0), G.int a1] (G.sl 1 (List.map cInt R)) := by
 unfold s1105 at hR;refine con_of_aw Tryz.func105 rfl rfl fun w0 M0 => ?_;refine len_sl (f := cInt) (l := a0) 0 rfl fun hla0 => ?_;refine aw_seq ?_;refine aw_region [.w] ?_;refine st_w rfl rfl (eff_nilL 4 3 1 rfl rfl rfl) rfl ?_;refine st_nil ?_;refine aw_cut_g (γ := Unit) (fun g => ([(0, .g (G.sl 1 (List.map cInt a0))), (1, .g (G.int a1))], [])) (fun g => s1105_j2 a0 a1 = some R) ?_ ?_
 ·refine aw_seq ?_;refine aw_region [.p, .p] ?_;refine st rfl rfl (eff_moveg rfl rfl) rfl ?_;refine st rfl rfl (eff_lss rfl rfl rfl) rfl ?_;refine st_nil ?_;refine aw_cond _ rfl (fun h3 => ?_) (fun h3 => ?_)
  ·(try simp only [Bool.or_eq_true, Bool.and_eq_true, Bool.or_eq_false_iff, Bool.and_eq_false_iff, Bool.not_eq_true', Bool.not_eq_false', decide_eq_true_eq, decide_eq_false_iff_not] at h3)
   exfalso; omega
  ·replace h3 : (decide (a1 < 0)) = false := h3;(try simp only [Bool.or_eq_true, Bool.and_eq_true, Bool.or_eq_false_iff, Bool.and_eq_false_iff, Bool.not_eq_true', Bool.not_eq_false', decide_eq_true_eq, decide_eq_false_iff_not] at h3);refine aw_skip ?_;exact ⟨rfl, (), ⟨rfl, rfl, trivial⟩, trivial, rfl, hR, trivial⟩
 ·rintro ⟨⟩ hR;replace hR : s1105_j2 a0 a1 = some R := hR;unfold s1105_j2 at hR;refine aw_seq ?_;refine aw_region [.p, .p, .p, .p, .p, .p, .p, .p, .p, .p, .p] ?_;refine st rfl rfl (eff_moveg rfl rfl) rfl ?_;refine st rfl rfl (eff_lenM (f := cInt) (l := a0) rfl Tryz.underlying51 rfl) rfl ?_;refine st rfl rfl (eff_convu rfl Tryz.underlying3 Tryz.underlying225 rfl (by (try dsimp only); omega) (by (try dsimp only); omega)) rfl ?_;refine st rfl rfl (eff_moveg rfl rfl) rfl ?_;refine st rfl rfl (eff_convu rfl Tryz.underlying3 Tryz.underlying225 rfl (by (try dsimp only); omega) (by (try dsimp only); omega)) rfl ?_;refine st rfl rfl (eff_call rfl K1139 rfl (mulR hl hn hn2) (ag_cons rfl (ag_cons rfl ag_nil))) rfl ?_;refine st rfl rfl (eff_moveg rfl rfl) rfl ?_;refine st rfl rfl (eff_extract rfl rfl rfl) rfl ?_;refine st rfl rfl (eff_extract rfl rfl rfl) rfl ?_;refine st rfl rfl (eff_assigng rfl rfl) rfl ?_;refine st rfl rfl (eff_assigng rfl rfl) rfl ?_;refine st_nil ?_;refine aw_cut_g (γ := Unit) (fun g => ([(0, .g (G.sl 1 (List.map cInt a0))), (6, .g (G.lit (.int .u64 a1)))], [])) (fun g => s1105_j1 a0 a1 = some R) ?_ ?_
  ·refine aw_seq ?_;refine aw_region [.p, .p, .p, .p, .p, .p] ?_;refine st rfl rfl (eff_moveg rfl rfl) rfl ?_;refine st rfl rfl (eff_gtr rfl rfl rfl) rfl ?_;refine st rfl rfl (eff_moveg rfl rfl) rfl ?_;refine st_g rfl rfl rfl (gb_bool _ _) (fun h => eff_moveg rfl rfl) rfl ?_;refine st_g rfl rfl rfl (gb_bool _ _) (fun h => eff_gtr rfl (gd h rfl) rfl) rfl ?_;refine st rfl rfl (eff_or rfl rfl rfl rfl) rfl ?_;refine st_nil ?_;refine aw_cond _ rfl (fun h2 => ?_) (fun h2 => ?_)
   ·(try simp only [Bool.or_eq_true, Bool.and_eq_true, Bool.or_eq_false_iff, Bool.and_eq_false_iff, Bool.not_eq_true', Bool.not_eq_false', decide_eq_true_eq, decide_eq_false_iff_not] at h2)
    exfalso; omega
   ·replace h2 : ((decide (0 < a1 - a1)) || (decide (9223372036854775807 < a1))) = false := h2;(try simp only [Bool.or_eq_true, Bool.and_eq_true, Bool.or_eq_false_iff, Bool.and_eq_false_iff, Bool.not_eq_true', Bool.not_eq_false', decide_eq_true_eq, decide_eq_false_iff_not] at h2);refine aw_skip ?_;exact ⟨rfl, (), ⟨rfl, rfl, trivial⟩, trivial, rfl, hR, trivial⟩
  ·rintro ⟨⟩ hR;replace hR : s1105_j1 a0 a1 = some R := hR;unfold s1105_j1 at hR;refine aw_seq ?_;refine aw_region [.p, .p, .w, .p] ?_;refine st rfl rfl (eff_moveg rfl rfl) rfl ?_;refine st rfl rfl (eff_convi rfl Tryz.underlying225 Tryz.underlying3 rfl (by unfold I64; (try dsimp only); omega)) rfl ?_;refine st_w rfl rfl (eff_makeS (f := cInt) (z := (0 : Int)) 30 rfl mk82 rfl rfl (Int.toNat_of_nonneg hn).symm (by first | exact Int.le_refl _ | omega) (by first | decide | omega) rfl rfl rfl) rfl ?_;refine st rfl rfl (eff_assignO rfl rfl) rfl ?_;refine st_nil ?_;refine aw_seq ?_;refine aw_region [.p, .p, .w, .p] ?_;refine st rfl rfl (eff_moveO rfl rfl) rfl ?_;refine st rfl rfl (eff_moveg rfl rfl) rfl ?_;refine st_w rfl rfl (eff_copyL (f := cInt) (d := List.replicate (Int.toNat a1) (0 : Int)) (s := a0) rfl app82 rfl List.length_replicate rfl (src_eq rfl (src_sl (by decide) (by simp [])))) rfl ?_;refine st rfl rfl (eff_assigng rfl rfl) rfl ?_;refine st_nil ?_;refine aw_seq ?_;refine aw_block ?_;refine aw_loop_g (γ := Nat × Int × (List Int)) (fun g => ([(7, .osl 30 1 0 (Int.toNat a1)), (8, .g (G.int g.2.1))], [(30, .arr 3 1 (List.map cInt g.2.2))])) (fun g => ((Int.toNat a1 : Int) - g.2.1).toNat < g.1 ∧ 0 ≤ g.2.1 ∧ g.2.1 ≤ (Int.toNat a1 : Int) ∧ (0 < g.2.1 ∨ Int.toNat a1 = 0) ∧ List.length g.2.2 = Int.toNat a1 ∧ s1105_l1 a1 g.1 g.2.1 g.2.2 = some R) (fun g => g.1) ⟨rfl, ((((Int.toNat a1 : Int) - ((min (List.length a0) (List.length (List.replicate (Int.toNat a1) (0 : Int))) : Nat) : Int)).toNat) + 1, ((min (List.length a0) (List.length (List.replicate (Int.toNat a1) (0 : Int))) : Nat) : Int), copyL (List.replicate (Int.toNat a1) (0 : Int)) a0), ⟨rfl, rfl, trivial⟩, ⟨rfl, trivial⟩, rfl, ⟨Nat.lt_succ_self _, (by dsimp only; omega), (by dsimp only; rw [List.length_replicate, hl]; omega), (by dsimp only; rw [List.length_replicate, hl]; omega), ((copyL_len _ _).trans List.length_replicate), (by exact hR)⟩, trivial⟩ ?_
   ·rintro ⟨k4, x1, x2⟩ ⟨hk1, iv1_0, iv1_1, iv1_2, ln3, hR⟩;replace hk1 : ((Int.toNat a1 : Int) - x1).toNat < k4 := hk1;replace hR : s1105_l1 a1 k4 x1 x2 = some R := hR;replace iv1_0 : 0 ≤ x1 := iv1_0;replace iv1_1 : x1 ≤ (Int.toNat a1 : Int) := iv1_1;replace iv1_2 : (0 < x1 ∨ Int.toNat a1 = 0) := iv1_2;replace ln3 : List.length x2 = Int.toNat a1 := ln3;obtain ⟨k4, rfl⟩ : ∃ m, k4 = m + 1 := ⟨k4 - 1, by omega⟩;rw [s1105_l1] at hR;(try dsimp only at hR);refine aw_seq ?_;refine aw_seq ?_;refine aw_region [.p, .p, .p, .p] ?_;refine st rfl rfl (eff_moveg rfl rfl) rfl ?_;refine st rfl rfl (eff_moveO rfl rfl) rfl ?_;refine st rfl rfl (eff_lenO0 rfl Tryz.underlying51 rfl) rfl ?_;refine st rfl rfl (eff_lss rfl rfl rfl) rfl ?_;refine st_nil ?_;refine aw_cond _ rfl (fun h1 => ?_) (fun h1 => ?_)
    ·replace h1 : (decide (x1 < (Int.toNat a1 : Int))) = true := h1;replace hR := condT hR h1;(try simp only [Bool.or_eq_true, Bool.and_eq_true, Bool.or_eq_false_iff, Bool.and_eq_false_iff, Bool.not_eq_true', Bool.not_eq_false', decide_eq_true_eq, decide_eq_false_iff_not] at h1);refine aw_skip ?_;refine aw_block ?_
     have htk : (List.take (Int.toNat x1) x2).length = Int.toNat x1 := by rw [List.length_take]; omega
     refine aw_draw [.p, .p, .p, .p, .p, .p, .p, .w, .p, .p] (by kernel_rfl) ?_;refine st rfl rfl (eff_moveg rfl rfl) rfl ?_;refine st rfl rfl (eff_moveO rfl rfl) rfl ?_;refine st rfl rfl (eff_moveg rfl rfl) rfl ?_;refine st rfl rfl (eff_slO (a := Int.toNat x1) (c := Int.toNat a1) rfl Tryz.underlying51 ty3 rfl (bnd_some rfl (by omega)) bnd_none (by omega) (by omega)) rfl ?_;refine st rfl rfl (eff_moveO rfl rfl) rfl ?_;refine st rfl rfl (eff_moveg rfl rfl) rfl ?_;refine st rfl rfl (eff_slO (a := 0) (c := Int.toNat x1) rfl Tryz.underlying51 ty3 rfl bnd_none (bnd_some rfl (by omega)) (by omega) (by omega)) rfl ?_;refine st_w rfl rfl (eff_copyW (f := cInt) (d := x2) (s := List.take (Int.toNat x1) x2) rfl app82 rfl ln3 (by omega) rfl (src_eq rfl (src_oslC (l := x2) rfl ln3 (by simp []) (by omega) (by omega)))) rfl ?_;refine st rfl rfl (eff_add rfl rfl rfl (by unfold I64; (try dsimp only); omega)) rfl ?_;refine st rfl rfl (eff_assigng rfl rfl) rfl ?_;refine st_nil ?_;exact ⟨rfl, (k4, x1 + ((min (List.length (List.take (Int.toNat x1) x2)) ((Int.toNat a1) - (Int.toNat x1)) : Nat) : Int), List.take (Int.toNat x1) x2 ++ List.take (min (List.length (List.take (Int.toNat x1) x2)) ((Int.toNat a1) - (Int.toNat x1))) (List.take (Int.toNat x1) x2) ++ List.drop ((Int.toNat x1) + min (List.length (List.take (Int.toNat x1) x2)) ((Int.toNat a1) - (Int.toNat x1))) x2), ⟨rfl, rfl, trivial⟩, ⟨rfl, trivial⟩, rfl, ⟨(by first | omega | (dsimp only; omega) | (simp at *; omega)), (by first | omega | (dsimp only; omega) | (simp at *; omega)), (by first | omega | (dsimp only; omega) | (simp at *; omega)), (by first | omega | (dsimp only; omega) | (simp at *; omega)), (cpy_len ln3 (by omega)), hR⟩, by simp⟩
    ·replace h1 : (decide (x1 < (Int.toNat a1 : Int))) = false := h1;replace hR := condF hR h1;(try simp only [Bool.or_eq_true, Bool.and_eq_true, Bool.or_eq_false_iff, Bool.and_eq_false_iff, Bool.not_eq_true', Bool.not_eq_false', decide_eq_true_eq, decide_eq_false_iff_not] at h1);refine aw_exit ?_;refine aw_seq ?_;refine aw_region [.p, .p] ?_;refine st rfl rfl (eff_moveO rfl rfl) rfl ?_;refine st rfl rfl (eff_assignO rfl rfl) rfl ?_;refine st_nil ?_;refine aw_ret ?_;obtain rfl := Option.some.inj hR;exact res_c rfl (rv_viewLN ln3 rfl rfl)
section
variable {E : Env} {w0 : World} {M0 : Nat → Prop}
def ConBX (X : (Nat → Option Own) → Prop) (E : Env) (f : FuncId) (args : List TV) (mem : Mem) (r : G) (mem' : Mem) : Prop :=
 ∀ w M ρ (vs : List Value), X (fun id => (ρ id).getD none) → (∀ b, M b → b < w.heap.size) → GlOk E w (owned M ρ) → (∀ id x, ρ id = some x → ∃ blk, lookO mem id = some blk) →
  (∀ id ow, ρ id = some (some ow) → ow.b < w.heap.size ∧ ¬ M ow.b) → (∀ id id' ow ow', ρ id = some (some ow) → ρ id' = some (some ow') → ow.b = ow'.b → id = id') →
  (∀ id blk, lookO mem id = some blk → BRel w (owned M ρ) ρ id blk) → ArgsT w (owned M ρ) ρ args vs →
  Calls E.P f vs.toArray w fun e w' => ∃ v, e = .returned v ∧ BelowX (fun b => ∃ id ow, ρ id = some (some ow) ∧ ow.b = b) w w' ∧ (∀ id blk, (id, blk) ∈ mem' → BRel w' (owned M ρ) ρ id blk) ∧ r.p w' (owned M ρ) v
theorem ConBX.lend {X : (Nat → Option Own) → Prop} {f : FuncId} {args : List TV} {r : G} {m m' : Mem} {mem : Mem} {x : Nat → Option Own} (h : ConBX X E f args m r m') : ConBX X (E.lend mem x) f args m r m' := h
theorem conBX_of_aw {X : (Nat → Option Own) → Prop} {f : FuncId} {fn : Func} {c : Code} {args : List TV} {mem mem' : Mem} {r : G} (hf : E.P.funcs[f]? = some fn) (hb : fn.body = some c) (hn0 : Nat.ble args.length fn.ntmps = true) (hl : lendable mem mem' = true)
  (h : ∀ w0 M0 x, X x → AWp (E.lend mem x) w0 M0 c (DoneB (E.lend mem x) fn r mem') ⟨fn.ntmps, initTV args, mem⟩) (hrn : E.rnd = none := by rfl) (hdf : E.mks = false := by rfl) : ConBX X E f args mem r mem' := by
 intro w M ρ vs hX hM hgl hdom hown hinj hblk hv;simp only [lendable, Bool.and_eq_true, List.all_eq_true] at hl;have hn := Nat.le_of_ble_eq_true hn0;have hlen := hv.length
 let x : Nat → Option Own := fun id => (ρ id).getD none
 have hx : ∀ id y, ρ id = some y → x id = y := fun id y h => by simp only [x, h, Option.getD_some]
 have hkeep : ∀ id y, lookO (E.lend mem x).bow id = some y → ρ id = some y := by
  intro id y h;obtain ⟨⟨b, h1⟩, rfl⟩ := (lookO_mapk x).1 h;obtain ⟨z, hz⟩ := (hblk id b h1).has (hl.1 _ (lookO_mem _ h1));rw [hx id z hz]; exact hz
 have hback : ∀ id y, ρ id = some y → lookO (E.lend mem x).bow id = some y := fun id y h => (lookO_mapk x).2 ⟨hdom id y h, (hx id y h).symm⟩;refine calls_of_wp hf hb ?_
 have ha : ARel (E.lend mem x) w M ⟨fn.ntmps, initTV args, mem⟩ { tmps := vs.toArray ++ Array.replicate (fn.ntmps - vs.toArray.size) undef, defers := [] } w := by
  refine ⟨fun _ => rfl, ?_, ρ, ?_, Marks.nil, ?_⟩
  ·simp; omega
  ·exact ⟨BelowX.refl _ w, hM, hgl, hdom, fun id ow ho => ⟨.inr ⟨id, ow, hback id _ ho, rfl⟩, (hown id ow ho).1⟩, hinj, hkeep, fun b ⟨id, ow, h1, h2⟩ => h2 ▸ (hown id ow (hkeep id _ h1)).2, hblk⟩
  ·intro i;have := initTV_rel (fn.ntmps - vs.length) hv i;show TRel _ _ _ (initTV args i) _;rw [Array.getD_eq_getD_getElem?];rw [show (vs.toArray ++ Array.replicate (fn.ntmps - vs.toArray.size) undef) = (vs ++ List.replicate (fn.ntmps - vs.length) undef).toArray by simp];rw [List.getElem?_toArray];exact this
 refine wp_mono (wp_env (E := E.lend mem x) (h w M x hX _ w ha) hrn) ?_;rintro e a' w' ⟨s', ha', hq⟩
 have fin : ResOk (E.lend mem x) fn s' r ∧ MemL s' mem' → a'.defers = [] ∧ ∃ v, (results fn a'.tmps).run E.P w' = .ok v w' ∧ (∃ u, Ending.returned v = .returned u ∧ BelowX (fun b => ∃ id ow, ρ id = some (some ow) ∧ ow.b = b) w w' ∧ (∀ id blk, (id, blk) ∈ mem' → BRel w' (owned M ρ) ρ id blk) ∧ r.p w' (owned M ρ) u) := by
  rintro ⟨hq, hm'⟩;obtain ⟨ρf, hm, _, ht⟩ := ha'.ex;obtain ⟨v, h1, h2, _⟩ := hq.run ρf w' a'.tmps hm ht
  have hsub : ∀ b, owned M ρ b → owned M ρf b := by
   rintro b (h | ⟨id, o, h, rfl⟩)
   ·exact .inl h
   ·exact .inr ⟨id, o, hm.keep id _ (hback id _ h), rfl⟩
  refine ⟨ha'.defers hdf, v, h1, v, rfl, hm.below.mono (fun b ⟨id, ow, h3, h4⟩ => ⟨id, ow, hkeep id _ h3, h4⟩), fun id blk hi => ?_, r.mono h2 (fun _ _ _ => rfl) (fun b _ hb => ?_)⟩
  ·have h3 := hl.2 _ hi;simp only [Bool.and_eq_true] at h3;refine BRel.ground h3.2 ?_ ((hm.blk id blk (memL_mem hm' hi)).sub hsub)
   cases h4 : lookO mem id with
   | none => rw [h4] at h3; cases h3.1
   | some b =>
    obtain ⟨z, hz⟩ := (hblk id b h4).has (hl.1 _ (lookO_mem _ h4));rw [hz, hm.keep id z (hback id z hz)]
  ·rcases hb with hb | ⟨id, o, hb, rfl⟩
   ·exact .inl hb
   ·exact .inr ⟨id, o, hback id _ hb, rfl⟩
 cases e with
 | ret => exact fin hq
 | normal => exact fin hq
 | _ => exact hq.elim
theorem upon_callBX {X : (Nat → Option Own) → Prop} {f : FuncId} {args : List TV} {memc memc' : Mem} {r : G} {vs : List Value} {ρ : Rho} {mem : Mem} {w : World} {res : Result Next} (σ : List (Nat × Nat)) (hc : ConBX X E f args memc r memc') (hX : ∀ ρc : Rho, (∀ p c, lookO σ p = some c → ρc p = ρ c) → X (fun id => (ρc id).getD none)) (hm : MRel E w0 M0 ρ mem w)
  (hl : LendL σ mem memc) (hσ : lendOk σ memc memc' = true) (hv : ∀ ρc : Rho, (∀ p c, lookO σ p = some c → ρc p = ρ c) → ArgsT w (owned M0 ρ) ρc args vs)
  (hres : res = .ok (.enter f vs.toArray) w) : UponW E w0 M0 ρ w (renM σ memc' ++ mem) (.g r) none res := by
 subst hres;simp only [lendOk, Bool.and_eq_true, List.all_eq_true, List.any_eq_true] at hσ;obtain ⟨s1, s2, s3⟩ := hσ
 let ρc : Rho := fun p => (lookO σ p).bind ρ
 have hρc : ∀ p c, lookO σ p = some c → ρc p = ρ c := fun p c h => by simp only [ρc, h, Option.bind_some]
 have hρc' : ∀ p x, ρc p = some x → ∃ c, lookO σ p = some c ∧ ρ c = some x := by
  intro p x h;simp only [ρc] at h
  cases hp : lookO σ p with
  | none => rw [hp] at h; cases h
  | some c => rw [hp] at h; exact ⟨c, rfl, h⟩
 let M : Nat → Prop := fun b => owned M0 ρ b ∧ ¬ ∃ p ow, ρc p = some (some ow) ∧ ow.b = b
 have hown : owned M ρc = owned M0 ρ := by
  funext b
  apply propext
  constructor
  ·rintro (h | ⟨p, o, h, rfl⟩)
   ·exact h.1
   ·obtain ⟨c, _, h2⟩ := hρc' p _ h;exact .inr ⟨c, o, h2, rfl⟩
  ·intro h
   by_cases hb : ∃ p ow, ρc p = some (some ow) ∧ ow.b = b
   ·obtain ⟨p, ow, h1, h2⟩ := hb; exact .inr ⟨p, ow, h1, h2⟩
   ·exact .inl ⟨h, hb⟩
 have hinj : ∀ id id' ow ow', ρc id = some (some ow) → ρc id' = some (some ow') → ow.b = ow'.b → id = id' := by
  intro p q ow ow' h1 h2 h3;obtain ⟨c, c1, c2⟩ := hρc' p _ h1;obtain ⟨d, d1, d2⟩ := hρc' q _ h2;have := hm.inj c d ow ow' c2 d2 h3;subst this;exact sigma_inj s1 (lookO_mem _ c1) (lookO_mem _ d1)
 have hcall := hc w M ρc vs (hX ρc hρc) (fun b h => hm.lt b h.1) (by rw [hown]; exact hm.glob)
  (fun p x h => by
   obtain ⟨c, c1, _⟩ := hρc' p x h;have := (s2 (p, c) (lookO_mem _ c1)).1
   exact Option.isSome_iff_exists.1 this)
  (fun p ow h => by
   obtain ⟨c, _, c2⟩ := hρc' p _ h
   exact ⟨(hm.fresh c ow c2).2, fun hM => hM.2 ⟨p, ow, h, rfl⟩⟩)
  hinj
  (fun p blk h => by
   obtain ⟨c, c1, c2, c3⟩ := lend_look hl h;rw [hown]
   exact BRel.ground c3 (hρc p c c1) (hm.blk c blk c2))
  (by rw [hown]; exact hv ρc hρc)
 rw [hown] at hcall;refine hcall.mono ?_;rintro e w' ⟨v, rfl, hb, hblk, hr⟩
 have hlow : ∀ b, b < w.heap.size → ¬ owned M0 ρ b → w'.heap[b]? = w.heap[b]? := fun b hlt hno => hb.block b hlt (by
  rintro ⟨p, ow, h1, rfl⟩;obtain ⟨c, _, c2⟩ := hρc' p _ h1
  exact hno (.inr ⟨c, ow, c2, rfl⟩))
 refine ⟨v, rfl, ρ, ⟨?_, hm.m0, hm.glob.grow hb.size hlow, ?_, ?_, hm.inj, hm.keep, hm.lentM, ?_⟩, fun tv u hn h => h.mono none hn hlow (fun _ _ h => h) (fun _ _ _ => rfl), hr⟩
 ·refine ⟨hb.os.trans hm.below.os, hb.tape.trans hm.below.tape, hb.output.trans hm.below.output, Nat.le_trans hm.below.size hb.size, fun k hk hlk => ?_⟩;refine (hb.block k (Nat.lt_of_lt_of_le hk hm.below.size) ?_).trans (hm.below.block k hk hlk);rintro ⟨p, ow, h1, rfl⟩;obtain ⟨c, _, c2⟩ := hρc' p _ h1
  rcases (hm.fresh c ow c2).1 with h | h
  ·omega
  ·exact hlk h
 ·intro id x h;obtain ⟨b, hb⟩ := hm.dom id x h;exact lookO_app hb
 ·exact fun id ow ho => ⟨(hm.fresh id ow ho).1, Nat.lt_of_lt_of_le (hm.fresh id ow ho).2 hb.size⟩
 ·intro id blk h
  rcases lookO_renM h with ⟨p, h1, h2⟩ | ⟨h1, h2⟩
  ·have h3 := s3 _ h1;simp only [Bool.and_eq_true] at h3;obtain ⟨c, hc⟩ := Option.isSome_iff_exists.1 h3.1;rw [hc, Option.getD_some] at h2;subst h2;exact BRel.ground h3.2 (hρc p c hc).symm (hblk p blk h1)
  ·refine (hm.blk id blk h2).mono none (by simp) (noref_none _) (fun ow ho => ?_) hlow (fun _ _ h => h) (fun _ _ _ => rfl);refine hb.block ow.b (hm.fresh id ow ho).2 ?_;rintro ⟨p, ow2, g1, g2⟩;obtain ⟨c, c1, c2⟩ := hρc' p _ g1;have := hm.inj c id ow2 ow c2 ho g2;subst this;obtain ⟨q, hq, hq2⟩ := (s2 (p, c) (lookO_mem _ c1)).2;have hq2 := Nat.eq_of_beq_eq_true hq2;refine h1 q hq ?_;rw [hq2];show (lookO σ p).getD 0 = c;rw [c1]; rfl
def At (y1 y2 : Own) (x : Nat → Option Own) : Prop := x 1 = some y1 ∧ x 2 = some y2
abbrev cloV (f : Nat) (y1 y2 : Own) : Value := .func (.func f) #[] #[.pointer (some ⟨y1.b, y1.o + 0, none⟩), .pointer (some ⟨y2.b, y2.o + 0, none⟩)]
theorem eff_makeFP {o : Oper} {ev : Operand → TV} {f : Nat} {s1 s2 : Operand} {c1 c2 : Nat} {y1 y2 : Own} (ho : o.op = .makeFunc (.func f) #[] #[s1, s2]) (h1 : ev s1 = .ptr c1 0) (h2 : ev s2 = .ptr c2 0) (b1 : lookO E.bow c1 = some (some y1)) (b2 : lookO E.bow c2 = some (some y2)) (mem : Mem) :
  Eff E o mem ev (.g (.lit (cloV f y1 y2))) := by
 intro w0 M0 ρ w e hm hx;have g1 := hx s1 (by rw [ho]; simp [Op.operands]);have g2 := hx s2 (by rw [ho]; simp [Op.operands]);rw [h1] at g1; rw [h2] at g2;obtain ⟨ow1, q1, q2⟩ := g1;obtain ⟨ow2, q3, q4⟩ := g2;have k1 := hm.keep c1 _ b1;have k2 := hm.keep c2 _ b2;rw [k1] at q1; cases q1;rw [k2] at q3; cases q3
 have hrun : (execOp e o).run E.P w = .ok (.value (cloV f y1 y2)) w := by
  simp [execOp, ho, q2, q4, cloV, Instr.makeFunc]
 rw [hrun];exact ⟨Grow.refl w, rfl⟩
theorem args_app {w : World} {M : Nat → Prop} {ρ : Rho} : ∀ {a b : List TV} {va vb : List Value}, ArgsT w M ρ a va → ArgsT w M ρ b vb → ArgsT w M ρ (a ++ b) (va ++ vb)
 | [], _, [], _, _, h => h
 | [], _, _ :: _, _, h, _ => h.elim
 | _ :: _, _, [], _, h, _ => h.elim
 | _ :: _, _, _ :: _, _, h, k => ⟨h.1, args_app h.2 k⟩
theorem eff_callCl {o : Oper} {mem : Mem} {ev : Operand → TV} {f : Nat} {z : Operand} {aps : Array Operand} {ts : Array TypeId} {args : List TV} {memc memc' : Mem} {r : G} {y1 y2 : Own} (c1 c2 : Nat) (ho : o.op = .call ⟨.value z, aps, ts⟩)
  (hk : Known E.P f) (hz : ev z = .g (.lit (cloV f y1 y2))) (hc : ConBX (At y1 y2) E f (args ++ [.ptr 1 0, .ptr 2 0]) memc r memc') (ha : aps.toList.map (fun x => some (ev x)) = args.map (renT [(1, c1), (2, c2)])) (hl : LendL [(1, c1), (2, c2)] mem memc) (hσ : lendOk [(1, c1), (2, c2)] memc memc' = true)
  (b1 : lookO E.bow c1 = some (some y1)) (b2 : lookO E.bow c2 = some (some y2)) : EffW E o mem ev (.g r) (renM [(1, c1), (2, c2)] memc' ++ mem) none := by
 intro w0 M0 ρ w e hm hx;obtain ⟨fn, h1, h2, h3⟩ := hk
 have hef : e z = cloV f y1 y2 := by
  have := hx z (by rw [ho]; simp [Op.operands, Call.operands]);rw [hz] at this;exact this
 have k1 := hm.keep c1 _ b1;have k2 := hm.keep c2 _ b2;have e1 : lookO [((1 : Nat), c1), (2, c2)] 1 = some c1 := rfl;have e2 : lookO [((1 : Nat), c1), (2, c2)] 2 = some c2 := rfl;refine upon_callBX (vs := aps.toList.map e ++ [.pointer (some ⟨y1.b, y1.o + 0, none⟩), .pointer (some ⟨y2.b, y2.o + 0, none⟩)]) [(1, c1), (2, c2)] hc (fun ρc hρ => ?_) hm hl hσ (fun ρc hρ => ?_) ?_
 ·have r1 := (hρ 1 c1 e1).trans k1;have r2 := (hρ 2 c2 e2).trans k2;exact ⟨by simp only [r1]; rfl, by simp only [r2]; rfl⟩
 ·refine args_app (args_ren hρ (fun x hx' => hx x (by rw [ho]; simp [Op.operands, Call.operands]; exact .inr (by simpa using hx'))) ha) ?_;exact ⟨⟨y1, (hρ 1 c1 e1).trans k1, rfl⟩, ⟨y2, (hρ 2 c2 e2).trans k2, rfl⟩, trivial⟩
 ·simp [execOp, ho, resolve, hef, cloV, Deferred.ofValue, invoke, run_callFunc h1 h2 h3]
def Env.pin (E : Env) (c1 c2 : Nat) (y1 y2 : Own) : Env := ⟨E.P, E.gl, E.orders, [(c1, some y1), (c2, some y2)], E.rnd, E.mks⟩
theorem lookO_two {c1 c2 id : Nat} {y1 y2 : Own} {x : Option Own} (h : lookO [(c1, some y1), (c2, some y2)] id = some x) : (id = c1 ∧ x = some y1) ∨ (id = c2 ∧ x = some y2) := by
 simp only [lookO] at h
 cases hb : Nat.beq c1 id with
 | true => rw [hb] at h; exact .inl ⟨(Nat.eq_of_beq_eq_true hb).symm, by simpa using h.symm⟩
 | false =>
  rw [hb] at h
  cases hb2 : Nat.beq c2 id with
  | true => rw [hb2] at h; exact .inr ⟨(Nat.eq_of_beq_eq_true hb2).symm, by simpa using h.symm⟩
  | false => rw [hb2] at h; cases h
theorem aw_pin {c : Code} {Q : Exit → ASt → Prop} {s : ASt} (c1 c2 : Nat) {cs1 cs2 : List TV} (hb0 : E.bow = []) (h1 : lookO s.mem c1 = some (.box cs1)) (h2 : lookO s.mem c2 = some (.box cs2)) (hne : Nat.beq c1 c2 = false)
  (h : ∀ y1 y2, AWp (E.pin c1 c2 y1 y2) w0 M0 c Q s) : AWp E w0 M0 c Q s := by
 intro a w ha;obtain ⟨hdf, hsz, ρ, hm, hmk, ht⟩ := ha;obtain ⟨y1, _, _, r1, _⟩ := hm.blk c1 _ h1;obtain ⟨y2, _, _, r2, _⟩ := hm.blk c2 _ h2;have nl : ∀ b, ¬ E.lent b := fun b => lent_nil hb0;have n1 : w0.heap.size ≤ y1.b := ((hm.fresh c1 y1 r1).1).resolve_right (nl _);have n2 : w0.heap.size ≤ y2.b := ((hm.fresh c2 y2 r2).1).resolve_right (nl _)
 have hL : ∀ b, (E.pin c1 c2 y1 y2).lent b → w0.heap.size ≤ b := by
  rintro b ⟨id, ow, hl, rfl⟩
  rcases lookO_two hl with ⟨_, e⟩ | ⟨_, e⟩
  ·cases e; exact n1
  ·cases e; exact n2
 have hm' : MRel (E.pin c1 c2 y1 y2) w0 M0 ρ s.mem w := by
  refine ⟨hm.below.mono (fun b hb => absurd hb (nl b)), hm.m0, hm.glob, hm.dom, fun id ow ho => ⟨((hm.fresh id ow ho).1).imp (fun h => h) (fun h => absurd h (nl _)), (hm.fresh id ow ho).2⟩, hm.inj, ?_, ?_, hm.blk⟩
  ·intro id x hx
   rcases lookO_two hx with ⟨rfl, rfl⟩ | ⟨rfl, rfl⟩
   ·exact r1
   ·exact r2
  ·intro b hb hM0;have := hL b hb;have := hm.m0 b hM0
   omega
 refine wpIn_mono (h y1 y2 a w ⟨hdf, hsz, ρ, hm', hmk, ht⟩) ?_;rintro e a' w' ⟨s', ⟨hdf', hsz', ρ', hm2, hmk', ht'⟩, hq⟩;refine ⟨s', ⟨hdf', hsz', ρ', ⟨?_, hm2.m0, hm2.glob, hm2.dom, ?_, hm2.inj, ?_, ?_, hm2.blk⟩, hmk', ht'⟩, hq⟩
 ·refine ⟨hm2.below.os, hm2.below.tape, hm2.below.output, hm2.below.size, fun k hk _ => hm2.below.block k hk fun hl => ?_⟩;have := hL k hl
  omega
 ·intro id ow ho;refine ⟨.inl ?_, (hm2.fresh id ow ho).2⟩
  rcases (hm2.fresh id ow ho).1 with h | h
  ·exact h
  ·exact hL _ h
 ·intro id x hx;rw [hb0] at hx; cases hx
 ·intro b hb;exact absurd hb (nl b)
theorem Con.pin {f : FuncId} {args : List G} {r : G} {c1 c2 : Nat} {y1 y2 : Own} (h : Con E f args r) : Con (E.pin c1 c2 y1 y2) f args r := h
theorem ConBX.pin {X : (Nat → Option Own) → Prop} {f : FuncId} {args : List TV} {r : G} {m m' : Mem} {c1 c2 : Nat} {y1 y2 : Own} (h : ConBX X E f args m r m') : ConBX X (E.pin c1 c2 y1 y2) f args m r m' := h
end
end Go.Sim
set_option maxRecDepth 10000
namespace Go.Sim
open Go.Proofs
def s1106_l1 (self : (List Int) → S1190 → Option (Bool × S1190)) (a0 : List Int) (a1 : S1190) : List Int → Nat → Option (Bool × S1190)
 | [], k4 => some (false, a1)
 | y5 :: t6, k4 => bindO (ixO a0 0) fun y7 => bindO (s1108 a1 y7 y5) fun r8 => bindO (s1109 (List.length a0 + 1) r8 (List.drop (Int.toNat 1) a0)) fun r9 => (bif r9 then bindO (self (List.drop (Int.toNat 1) a0) r8) fun r10 => some (r10.1, r10.2) else s1106_l1 self a0 a1 t6 (k4 + 1))
def s1106 : Nat → (List Int) → S1190 → Option (Bool × S1190)
 | 0, _, _ => none
 | kf_ + 1, a0, a1 => (bif decide ((List.length a0 : Int) = 0) then some (true, a1) else bindO (ixO a0 0) fun y1 => bindO (s1107 a1 y1) fun r2 => s1106_l1 (fun z0_ z1_ => s1106 kf_ z0_ z1_) a0 a1 r2 0)
theorem c1106 {g : List (Nat × List Value)} (kf_ : Nat) : ∀ (a0 : List Int) (a1 : S1190) {R : Bool × S1190} {ow1 : Own} {ow2 : Own} (hb : a1.turns.length ≤ 1000) (hb2 : a1.stands.length ≤ 1000) (hb3 : a1.given.length ≤ 1000) (hb4 : a0.length ≤ 1000) (hR : s1106 kf_ a0 a1 = some R), ConBX (At ow1 ow2) (EG g) 106 [.g (G.sl 1 (List.map cInt a0)), .ptr 1 0, .ptr 2 0] [(1, .box [.g (G.sl 3 (List.map S1122.c a1.stands)), .g (G.sl 5 (List.map S1124.c a1.turns)), .g (G.int a1.buffer), .g (G.sl 1 (List.map cInt a1.given))]), (2, .box [.g (G.lit (cloV 106 ow1 ow2))])] (G.bool R.1) [(1, .box [.g (G.sl 3 (List.map S1122.c R.2.stands)), .g (G.sl 5 (List.map S1124.c R.2.turns)), .g (G.int R.2.buffer), .g (G.sl 1 (List.map cInt R.2.given))]), (2, .box [.g (G.lit (cloV 106 ow1 ow2))])] := by
 induction kf_ with
 | zero => intro a0 a1 R ow1 ow2 hb hb2 hb3 hb4 hR; rw [s1106] at hR; cases hR
 | succ kf_ ih =>
 intro a0 a1 R ow1 ow2 hb hb2 hb3 hb4 hR;rw [s1106] at hR;(try dsimp only at hR);refine conBX_of_aw Tryz.func106 rfl rfl rfl fun w0 M0 x hX_ => ?_;refine len_sl (f := cInt) (l := a0) 0 rfl fun hla0 => ?_;refine aw_seq ?_;refine aw_region [.p] ?_;refine st rfl rfl (eff_assigng rfl rfl) rfl ?_;refine st_nil ?_;refine aw_seq ?_;refine aw_seq ?_;refine aw_region [.p, .p, .p] ?_;refine st rfl rfl (eff_moveg rfl rfl) rfl ?_;refine st rfl rfl (eff_lenM (f := cInt) (l := a0) rfl Tryz.underlying51 rfl) rfl ?_;refine st rfl rfl (eff_eql rfl rfl rfl) rfl ?_;refine st_nil ?_;refine aw_cond _ rfl (fun h1 => ?_) (fun h1 => ?_)
 ·replace h1 : (decide ((List.length a0 : Int) = 0)) = true := h1;replace hR := condT hR h1;(try simp only [Bool.or_eq_true, Bool.and_eq_true, Bool.or_eq_false_iff, Bool.and_eq_false_iff, Bool.not_eq_true', Bool.not_eq_false', decide_eq_true_eq, decide_eq_false_iff_not] at h1);refine aw_seq ?_;refine aw_region [.p] ?_;refine st rfl rfl (eff_assigng rfl rfl) rfl ?_;refine st_nil ?_;refine aw_ret ?_;obtain rfl := Option.some.inj hR;show ResOk _ _ _ _ ∧ MemL _ _;exact ⟨res_c rfl (rv_g rfl), ⟨rfl, rfl, trivial⟩⟩
 ·replace h1 : (decide ((List.length a0 : Int) = 0)) = false := h1;replace hR := condF hR h1;(try simp only [Bool.or_eq_true, Bool.and_eq_true, Bool.or_eq_false_iff, Bool.and_eq_false_iff, Bool.not_eq_true', Bool.not_eq_false', decide_eq_true_eq, decide_eq_false_iff_not] at h1);refine aw_skip ?_;refine aw_seq ?_;refine aw_seq ?_;obtain ⟨y1, by1, hR⟩ := bindO_inv hR;obtain ⟨r2, br2, hR⟩ := bindO_inv hR;refine aw_draw [.r, .p, .p, .p, .p, .p, .p] (by kernel_rfl) ?_;refine st_r rfl rfl (eff_loadOA rfl ty1191 rfl rfl rfl rfl) rfl ?_;refine st rfl rfl (eff_moveg rfl rfl) rfl ?_;refine st rfl rfl (eff_ix (f := cInt) (l := a0) (a := y1) rfl Tryz.underlying51 ty3 rfl rfl (ixO_nn by1) (ixO_get by1)) rfl ?_;refine st rfl rfl (eff_load rfl ty3 rfl) rfl ?_;refine st rfl rfl (eff_call rfl K1107 rfl (Con.lend (c1107 a1 y1 (by first | assumption | omega | (simp [copyL_len]; done) | (simp [copyL_len]; omega)) (by first | assumption | omega | (simp [copyL_len]; done) | (simp [copyL_len]; omega)) br2)) (ag_cons rfl (ag_cons rfl ag_nil))) rfl ?_;refine st rfl rfl (eff_lenM (f := cInt) (l := r2) rfl Tryz.underlying51 rfl) rfl ?_;refine st rfl rfl (eff_moveg rfl rfl) rfl ?_;refine st_nil ?_;refine aw_block ?_;refine aw_loop_g (γ := Nat × (List Int)) (fun g => ([(0, .g (G.sl 1 (List.map cInt a0))), (1, .ptr 1 0), (2, .ptr 2 0), (15, .g (G.sl 1 (List.map cInt r2))), (16, .g (G.int (List.length r2 : Int))), (17, .g (G.int ((g.1 : Nat) : Int)))], [(1, .box [.g (G.sl 3 (List.map S1122.c a1.stands)), .g (G.sl 5 (List.map S1124.c a1.turns)), .g (G.int a1.buffer), .g (G.sl 1 (List.map cInt a1.given))]), (2, .box [.g (G.lit (cloV 106 ow1 ow2))])])) (fun g => r2.drop g.1 = g.2 ∧ s1106_l1 (fun z0_ z1_ => s1106 kf_ z0_ z1_) a0 a1 g.2 g.1 = some R) (fun g => List.length g.2) ⟨rfl, (0, r2), ⟨rfl, rfl, rfl, rfl, rfl, rfl, trivial⟩, ⟨rfl, rfl, trivial⟩, rfl, ⟨rfl, (by exact hR)⟩, trivial⟩ ?_
  ·rintro ⟨k4, t6⟩ ⟨hd, hR⟩;replace hd : r2.drop k4 = t6 := hd;replace hR : s1106_l1 (fun z0_ z1_ => s1106 kf_ z0_ z1_) a0 a1 t6 k4 = some R := hR;refine aw_seq ?_;refine aw_region [.p] ?_;refine st rfl rfl (eff_lss rfl rfl rfl) rfl ?_;refine st_nil ?_;refine len_sl (f := cInt) (l := r2) 15 rfl fun hlz1 => ?_;refine aw_seq ?_;refine aw_cond _ rfl (fun h2 => ?_) (fun h2 => ?_)
   ·replace h2 : (decide (((k4 : Nat) : Int) < (List.length r2 : Int))) = true := h2;obtain ⟨y5, t6, rfl, hx1, hd⟩ := drop_cons hd (decT h2);replace h2 := decT h2;rw [s1106_l1] at hR;(try dsimp only at hR);refine aw_skip ?_;refine aw_seq ?_;refine aw_block ?_;refine aw_seq ?_;refine aw_region [.p, .p, .p] ?_;refine st rfl rfl (eff_ix (f := cInt) (l := r2) (a := y5) rfl Tryz.underlying51 ty3 rfl rfl (Int.natCast_nonneg _) hx1) rfl ?_;refine st rfl rfl (eff_load rfl ty3 rfl) rfl ?_;refine st rfl rfl (eff_assigng rfl rfl) rfl ?_;refine st_nil ?_;refine aw_seq ?_;obtain ⟨y7, by7, hR⟩ := bindO_inv hR;obtain ⟨r8, br8, hR⟩ := bindO_inv hR;have hw := poss_le br8 hb hb2 hb3;refine aw_draw [.rq 1, .p, .p, .p, .p, .p, .al 7, .wq 7] (by kernel_rfl) ?_;refine st_rq (i := 1) rfl rfl rfl (fun m_ hm_ => eff_loadOA rfl ty1191 rfl hm_ rfl rfl) rfl ?_;refine st rfl rfl (eff_moveg rfl rfl) rfl ?_;refine st rfl rfl (eff_ix (f := cInt) (l := a0) (a := y7) rfl Tryz.underlying51 ty3 rfl rfl (ixO_nn by7) (ixO_get by7)) rfl ?_;refine st rfl rfl (eff_load rfl ty3 rfl) rfl ?_;refine st rfl rfl (eff_moveg rfl rfl) rfl ?_;refine st rfl rfl (eff_call rfl K1108 rfl (Con.lend (c1108 a1 y7 y5 (by first | assumption | omega | (simp [copyL_len]; done) | (simp [copyL_len]; omega)) br8)) (ag_cons rfl (ag_cons rfl (ag_cons rfl ag_nil)))) rfl ?_;refine st_al (i := 7) rfl rfl rfl (fun m_ hm_ => eff_alloc 7 rfl z1191 rfl hm_) rfl ?_;refine st_wqn (i := 7) rfl rfl (fun m_ hm_ => eff_store (tv := .g (G.agg [G.sl 3 (List.map S1122.c r8.stands), G.sl 5 (List.map S1124.c r8.turns), G.int r8.buffer, G.sl 1 (List.map cInt r8.given)])) rfl ty1191 rfl rfl (hm_.trans rfl) rfl rfl) ?_;refine st_nil ?_;refine aw_seq ?_;obtain ⟨r9, br9, hR⟩ := bindO_inv hR;refine aw_draw [.r, .p, .p, .p] (by kernel_rfl) ?_;refine st_r rfl rfl (eff_loadOA rfl ty1191 rfl rfl rfl rfl) rfl ?_;refine st rfl rfl (eff_moveg rfl rfl) rfl ?_;refine st rfl rfl (eff_slD (f := cInt) (l := a0) rfl Tryz.underlying51 ty3 rfl (bnd_some rfl (by decide)) (by simp; omega)) rfl ?_;refine st rfl rfl (eff_call rfl K1109 rfl (Con.lend (c1109 (List.length a0 + 1) r8 (List.drop (Int.toNat 1) a0) hw.1 hw.2.1 hw.2.2 (by simp; omega) br9)) (ag_cons rfl (ag_cons rfl ag_nil))) rfl ?_;refine st_nil ?_;refine aw_cond _ rfl (fun h4 => ?_) (fun h4 => ?_)
    ·replace h4 : (r9) = true := h4;replace hR := condT hR h4;(try simp only [Bool.or_eq_true, Bool.and_eq_true, Bool.or_eq_false_iff, Bool.and_eq_false_iff, Bool.not_eq_true', Bool.not_eq_false', decide_eq_true_eq, decide_eq_false_iff_not] at h4);refine aw_seq ?_;refine aw_region [.r, .w] ?_;refine st_r rfl rfl (eff_loadOA rfl ty1191 rfl rfl rfl rfl) rfl ?_;refine st_wn rfl rfl (eff_store (tv := .g (G.agg [G.sl 3 (List.map S1122.c r8.stands), G.sl 5 (List.map S1124.c r8.turns), G.int r8.buffer, G.sl 1 (List.map cInt r8.given)])) rfl ty1191 rfl rfl rfl rfl rfl) ?_;refine st_nil ?_;refine aw_seq ?_;obtain ⟨r10, br10, hR⟩ := bindO_inv hR;refine aw_draw [.r, .p, .p, .w, .p] (by kernel_rfl) ?_;refine st_r rfl rfl (eff_loadO rfl ty192 rfl rfl rfl) rfl ?_;refine st rfl rfl (eff_moveg rfl rfl) rfl ?_;refine st rfl rfl (eff_slD (f := cInt) (l := a0) rfl Tryz.underlying51 ty3 rfl (bnd_some rfl (by decide)) (by simp; omega)) rfl ?_;refine st_w rfl rfl (eff_callCl (args := [.g (G.sl 1 (List.map cInt (List.drop (Int.toNat 1) a0)))]) 1 2 rfl K1106 rfl (ConBX.lend (ih (List.drop (Int.toNat 1) a0) r8 hw.1 hw.2.1 hw.2.2 (by simp; omega) br10)) (at_cons rfl rfl at_nil) ⟨⟨_, rfl, rfl, rfl⟩, ⟨_, rfl, rfl, rfl⟩, trivial⟩ rfl (congrArg some hX_.1) (congrArg some hX_.2)) rfl ?_;refine st rfl rfl (eff_assigng rfl rfl) rfl ?_;refine st_nil ?_;refine aw_ret ?_;obtain rfl := Option.some.inj hR;show ResOk _ _ _ _ ∧ MemL _ _;exact ⟨res_c rfl (rv_g rfl), ⟨rfl, rfl, trivial⟩⟩
    ·replace h4 : (r9) = false := h4;replace hR := condF hR h4;(try simp only [Bool.or_eq_true, Bool.and_eq_true, Bool.or_eq_false_iff, Bool.and_eq_false_iff, Bool.not_eq_true', Bool.not_eq_false', decide_eq_true_eq, decide_eq_false_iff_not] at h4);refine aw_skip ?_;refine aw_region [.p, .p] ?_;refine st rfl rfl (eff_add rfl rfl rfl (by unfold I64; omega)) rfl ?_;refine st rfl rfl (eff_moveg rfl rfl) rfl ?_;refine st_nil ?_;exact ⟨rfl, (k4 + 1, t6), ⟨rfl, rfl, rfl, rfl, rfl, rfl, trivial⟩, ⟨rfl, rfl, trivial⟩, rfl, ⟨hd, hR⟩, by simp⟩
   ·replace h2 : (decide (((k4 : Nat) : Int) < (List.length r2 : Int))) = false := h2;obtain rfl := drop_nil hd (decF h2);rw [s1106_l1] at hR;refine aw_exit ?_;refine aw_seq ?_;refine aw_region [.p] ?_;refine st rfl rfl (eff_assigng rfl rfl) rfl ?_;refine st_nil ?_;refine aw_ret ?_;obtain rfl := Option.some.inj hR;show ResOk _ _ _ _ ∧ MemL _ _;exact ⟨res_c rfl (rv_g rfl), ⟨rfl, rfl, trivial⟩⟩
theorem zf192 : zeroK Tryz.prog 192 = some [.nilFunc] := by kernel_rfl
theorem asg8 {X : Int} {n : Nat} (h : ¬ s1085 [X, s1086 (decide ((8 : Int) < (n : Int))) 22] ≠ 0) : X = 0 ∧ n ≤ 8 := by
 have h := Decidable.not_not.1 h;rw [s1085_eq, s89_zero] at h;have h1 := h X (by simp);have h2 := h _ (List.mem_cons_of_mem _ List.mem_cons_self);rw [s1086_ite] at h2;refine ⟨h1, ?_⟩
 split at h2
 ·cases h2
 ·rename_i hc; simp at hc; omega
theorem rep_l1 {a1 : Int} : ∀ (k : Nat) (x1 : Int) (x2 R : List Int), s1105_l1 a1 k x1 x2 = some R → x2.length = Int.toNat a1 → 0 ≤ x1 → x2.take x1.toNat = List.replicate (min x1.toNat (Int.toNat a1)) (-1) → R = List.replicate (Int.toNat a1) (-1)
 | 0, _, _, _, h, _, _, _ => by rw [s1105_l1] at h; cases h
 | k + 1, x1, x2, R, h, q1, q2, q3 => by
  rw [s1105_l1] at h
  cases hc : decide (x1 < (Int.toNat a1 : Int)) with
  | true =>
   have h := condT h hc;have hc := of_decide_eq_true hc
   have hx : x1.toNat < Int.toNat a1 := by omega
   have hlt : (List.take (Int.toNat x1) x2).length = x1.toNat := by rw [List.length_take]; omega
   have hl := cpy_len (s := List.take (Int.toNat x1) x2) q1 hx;refine rep_l1 k _ _ R h hl (by omega) ?_;rw [hlt] at *
   have hm : (x1 + ((min x1.toNat (Int.toNat a1 - x1.toNat) : Nat) : Int)).toNat = x1.toNat + min x1.toNat (Int.toNat a1 - x1.toNat) := by omega
   rw [hm, List.take_left' (by simp only [List.length_append, List.length_take]; omega)];rw [q3, Nat.min_eq_left (by omega : x1.toNat ≤ Int.toNat a1), List.take_replicate, List.replicate_append_replicate]
   congr 1; omega
  | false =>
   have h := condF h hc;have hc := of_decide_eq_false hc
   cases h
   rw [List.take_of_length_le (by omega)] at q3;rw [q3]; congr 1; omega
theorem rep_ok {a1 : Int} {R : List Int} (h : s1105 [-1] a1 = some R) : R = List.replicate (Int.toNat a1) (-1) := by
 unfold s1105 s1105_j2 s1105_j1 at h;refine rep_l1 _ _ _ R h ?_ (by omega) ?_
 ·rw [copyL_len, List.length_replicate]
 ·simp only [List.length_replicate, List.length_cons, List.length_nil];unfold copyL;rw [List.length_replicate]
  rcases hn : Int.toNat a1 with _ | n
  ·simp
  ·simp
theorem rep_le {a1 : Int} {R : List Int} {n : Nat} (h : s1105 [-1] a1 = some R) (h1 : a1 = (n : Int)) (h2 : n ≤ 8) : R.length ≤ 1000 := by
 rw [rep_ok h, List.length_replicate]; omega
end Go.Sim
set_option maxRecDepth 10000
namespace Go.Sim
open Go.Proofs
def s1032_l1 (a0 : List S1122) (a1 : List S1124) (a2 : Int) (r1 : List Int) : List S1124 → Nat → (List Int) → Option ((List Int) × Int)
 | [], k4, x2 => bindO (s1106 (List.length x2 + 1) x2 (S1190.mk a0 a1 a2 r1)) fun r7 => (bif !r7.1 then some ([], 23) else some (r7.2.given, 0))
 | y5 :: t6, k4, x2 => s1032_l1 a0 a1 a2 r1 t6 (k4 + 1) (x2 ++ [((k4 : Nat) : Int)])
def s1032 (a0 : List S1122) (a1 : List S1124) (a2 : Int) : Option ((List Int) × Int) :=
 (bif decide ((s1085 [(s1104 a0 a1 a2), (s1086 (decide (8 < (List.length a1 : Int))) 22)]) ≠ 0) then some ([], (s1085 [(s1104 a0 a1 a2), (s1086 (decide (8 < (List.length a1 : Int))) 22)])) else bindO (s1105 [(-1)] (List.length a1 : Int)) fun r1 => s1032_l1 a0 a1 a2 r1 a1 0 (List.replicate 0 0))
theorem c1032 {g : List (Nat × List Value)} (a0 : List S1122) (a1 : List S1124) (a2 : Int) {R : (List Int) × Int}   (hR : s1032 a0 a1 a2 = some R) : Con (EG g) 32 [G.sl 3 (List.map S1122.c a0), G.sl 5 (List.map S1124.c a1), G.int a2] (G.tup [G.sl 1 (List.map cInt R.1), G.int R.2]) := by
 unfold s1032 at hR;refine con_of_aw Tryz.func32 rfl rfl fun w0 M0 => ?_;refine len_sl (f := S1122.c) (l := a0) 0 rfl fun hla0 => ?_;refine len_sl (f := S1124.c) (l := a1) 1 rfl fun hla1 => ?_;refine aw_seq ?_;refine aw_region [.p, .p] ?_;refine st rfl rfl (eff_assigng rfl rfl) rfl ?_;refine st rfl rfl (eff_assigng rfl rfl) rfl ?_;refine st_nil ?_;refine aw_seq ?_;refine aw_seq ?_;refine aw_region [.p, .p, .p, .p, .p, .p, .p, .p, .p, .p, .p] ?_;refine st rfl rfl (eff_moveg rfl rfl) rfl ?_;refine st rfl rfl (eff_moveg rfl rfl) rfl ?_;refine st rfl rfl (eff_moveg rfl rfl) rfl ?_;refine st rfl rfl (eff_call rfl K1104 rfl (c1104 a0 a1 a2) (ag_cons rfl (ag_cons rfl (ag_cons rfl ag_nil)))) rfl ?_;refine st rfl rfl (eff_moveg rfl rfl) rfl ?_;refine st rfl rfl (eff_lenM (f := S1124.c) (l := a1) rfl Tryz.underlying23 rfl) rfl ?_;refine st rfl rfl (eff_gtr rfl rfl rfl) rfl ?_;refine st rfl rfl (eff_call rfl K1086 rfl (c1086 (decide (8 < (List.length a1 : Int))) 22) (ag_cons rfl (ag_cons rfl ag_nil))) rfl ?_;refine st rfl rfl (eff_buildSlice rfl Tryz.underlying222 ty37 z37 rfl (ps_cons rfl (ps_cons rfl ps_nil)) rfl (by simp []) (by decide)) rfl ?_;refine st rfl rfl (eff_call rfl K1085 rfl (c1085 [(s1104 a0 a1 a2), (s1086 (decide (8 < (List.length a1 : Int))) 22)]) (ag_cons rfl ag_nil)) rfl ?_;refine st rfl rfl (eff_assigng rfl rfl) rfl ?_;refine st_nil ?_;refine aw_seq ?_;refine aw_region [.p, .p] ?_;refine st rfl rfl (eff_moveg rfl rfl) rfl ?_;refine st rfl rfl (eff_neq rfl rfl rfl) rfl ?_;refine st_nil ?_;refine aw_cond _ rfl (fun h1 => ?_) (fun h1 => ?_)
 ·replace h1 : (decide ((s1085 [(s1104 a0 a1 a2), (s1086 (decide (8 < (List.length a1 : Int))) 22)]) ≠ 0)) = true := h1;replace hR := condT hR h1;(try simp only [Bool.or_eq_true, Bool.and_eq_true, Bool.or_eq_false_iff, Bool.and_eq_false_iff, Bool.not_eq_true', Bool.not_eq_false', decide_eq_true_eq, decide_eq_false_iff_not] at h1);refine aw_seq ?_;refine aw_region [.p, .p, .p] ?_;refine st rfl rfl (eff_moveg rfl rfl) rfl ?_;refine st rfl rfl (eff_assigng rfl rfl) rfl ?_;refine st rfl rfl (eff_assigng rfl rfl) rfl ?_;refine st_nil ?_;refine aw_ret ?_;obtain rfl := Option.some.inj hR;exact resN rfl ⟨rv_nilG rfl (nil_sl _), rv_g rfl, trivial⟩ (by simp)
 ·replace h1 : (decide ((s1085 [(s1104 a0 a1 a2), (s1086 (decide (8 < (List.length a1 : Int))) 22)]) ≠ 0)) = false := h1;replace hR := condF hR h1;(try simp only [Bool.or_eq_true, Bool.and_eq_true, Bool.or_eq_false_iff, Bool.and_eq_false_iff, Bool.not_eq_true', Bool.not_eq_false', decide_eq_true_eq, decide_eq_false_iff_not] at h1);obtain ⟨hz8, hl8⟩ := asg8 h1;have hst := (stands_ok (ground_zero.1 hz8).1).1;refine aw_skip ?_;refine aw_seq ?_;obtain ⟨r1, br1, hR⟩ := bindO_inv hR;have hrl := rep_le br1 rfl hl8;refine aw_region [.p, .p, .p, .p, .p, .p, .p, .p, .w, .w] ?_;refine st rfl rfl (eff_moveg rfl rfl) rfl ?_;refine st rfl rfl (eff_moveg rfl rfl) rfl ?_;refine st rfl rfl (eff_moveg rfl rfl) rfl ?_;refine st rfl rfl (eff_buildSlice rfl Tryz.underlying51 ty3 z3 rfl (ps_cons rfl ps_nil) rfl (by simp []) (by decide)) rfl ?_;refine st rfl rfl (eff_moveg rfl rfl) rfl ?_;refine st rfl rfl (eff_lenM (f := S1124.c) (l := a1) rfl Tryz.underlying23 rfl) rfl ?_;refine st rfl rfl (eff_call rfl K1105 rfl (c1105 [(-1)] (List.length a1 : Int) rfl (Int.natCast_nonneg _) (by omega) br1) (ag_cons rfl (ag_cons rfl ag_nil))) rfl ?_;refine st rfl rfl (eff_build rfl z1191 rfl pl1191 (pb_cons rfl (pb_cons rfl (pb_cons rfl (pb_cons rfl pb_nil)))) rfl) rfl ?_;refine st_w rfl rfl (eff_alloc 9 rfl z1191 rfl rfl) rfl ?_;refine st_wn rfl rfl (eff_store (tv := .g (G.agg [G.sl 3 (List.map S1122.c a0), G.sl 5 (List.map S1124.c a1), G.int a2, G.sl 1 (List.map cInt r1)])) rfl ty1191 rfl rfl rfl rfl rfl) ?_;refine st_nil ?_;refine aw_seq ?_;refine aw_region [.p, .p, .w, .p] ?_;refine st rfl rfl (eff_moveg rfl rfl) rfl ?_;refine st rfl rfl (eff_lenM (f := S1124.c) (l := a1) rfl Tryz.underlying23 rfl) rfl ?_;refine st_w rfl rfl (eff_makeS (f := cInt) (z := 0) 36 rfl mk82 rfl rfl rfl (by first | exact Int.le_refl _ | omega) (by first | decide | omega) rfl rfl rfl) rfl ?_;refine st rfl rfl (eff_assignO rfl rfl) rfl ?_;refine st_nil ?_;refine aw_seq ?_;refine aw_seq ?_;refine aw_region [.p, .p, .p] ?_;refine st rfl rfl (eff_moveg rfl rfl) rfl ?_;refine st rfl rfl (eff_lenM (f := S1124.c) (l := a1) rfl Tryz.underlying23 rfl) rfl ?_;refine st rfl rfl (eff_moveg rfl rfl) rfl ?_;refine st_nil ?_;refine aw_block ?_;refine aw_loop_g (γ := Nat × (List S1124) × (List Int)) (fun g => ([(9, .ptr 9 0), (10, .osl 36 1 0 (List.length g.2.2)), (38, .g (G.int (List.length a1 : Int))), (39, .g (G.int ((g.1 : Nat) : Int)))], [(9, .box [.g (G.sl 3 (List.map S1122.c a0)), .g (G.sl 5 (List.map S1124.c a1)), .g (G.int a2), .g (G.sl 1 (List.map cInt r1))]), (36, .arr 3 1 (List.map cInt g.2.2))])) (fun g => g.2.2.length ≤ g.1 ∧ g.1 ≤ a1.length ∧ a1.drop g.1 = g.2.1 ∧ s1032_l1 a0 a1 a2 r1 g.2.1 g.1 g.2.2 = some R) (fun g => List.length g.2.1) ⟨rfl, (0, a1, List.replicate 0 0), ⟨rfl, rfl, rfl, rfl, trivial⟩, ⟨rfl, rfl, trivial⟩, rfl, ⟨(by first | (simp; done) | (simp; omega)), (by first | (simp; done) | (simp; omega)), rfl, (by exact hR)⟩, trivial⟩ ?_
  ·rintro ⟨k4, t6, x2⟩ ⟨iv1_0, iv1_1, hd, hR⟩;replace hd : a1.drop k4 = t6 := hd;replace hR : s1032_l1 a0 a1 a2 r1 t6 k4 x2 = some R := hR;replace iv1_0 : x2.length ≤ k4 := iv1_0;replace iv1_1 : k4 ≤ a1.length := iv1_1;refine aw_seq ?_;refine aw_region [.p] ?_;refine st rfl rfl (eff_lss rfl rfl rfl) rfl ?_;refine st_nil ?_;refine aw_seq ?_;refine aw_cond _ rfl (fun h2 => ?_) (fun h2 => ?_)
   ·replace h2 : (decide (((k4 : Nat) : Int) < (List.length a1 : Int))) = true := h2;obtain ⟨y5, t6, rfl, hx1, hd⟩ := drop_cons hd (decT h2);replace h2 := decT h2;rw [s1032_l1] at hR;(try dsimp only at hR);refine aw_skip ?_;refine aw_seq ?_;refine aw_block ?_;refine aw_seq ?_;refine aw_region [.p, .p] ?_;refine st rfl rfl (eff_moveg rfl rfl) rfl ?_;refine st rfl rfl (eff_assigng rfl rfl) rfl ?_;refine st_nil ?_;refine aw_region [.p, .p, .p, .k, .p] ?_;refine st rfl rfl (eff_moveO rfl rfl) rfl ?_;refine st rfl rfl (eff_moveg rfl rfl) rfl ?_;refine st rfl rfl (eff_buildSlice rfl Tryz.underlying51 ty3 z3 rfl (ps_cons rfl ps_nil) rfl (by simp []) (by decide)) rfl ?_;refine st_k rfl rfl (eff_appL (f := cInt) (out := x2) (new := [((k4 : Nat) : Int)]) rfl app82 rfl rfl (src_eq rfl (src_sl (by decide) (by simp []))) (refsN rfl) (by simp; omega)) rfl ?_;refine st rfl rfl (eff_assignO rfl rfl) rfl ?_;refine st_nil ?_;refine aw_region [.p, .p] ?_;refine st rfl rfl (eff_add rfl rfl rfl (by unfold I64; omega)) rfl ?_;refine st rfl rfl (eff_moveg rfl rfl) rfl ?_;refine st_nil ?_;exact ⟨rfl, (k4 + 1, t6, x2 ++ [((k4 : Nat) : Int)]), ⟨rfl, rfl, rfl, rfl, trivial⟩, ⟨rfl, rfl, trivial⟩, rfl, ⟨(by first | omega | (dsimp only; omega) | (simp at *; omega)), (by first | omega | (dsimp only; omega) | (simp at *; omega)), hd, hR⟩, by simp⟩
   ·replace h2 : (decide (((k4 : Nat) : Int) < (List.length a1 : Int))) = false := h2;obtain rfl := drop_nil hd (decF h2);rw [s1032_l1] at hR;refine aw_exit ?_;refine aw_seq ?_;refine aw_freeze (l := [(9, .ptr 9 0), (10, .g (G.sl 1 (List.map cInt x2)))]) (m := [(9, .box [.g (G.sl 3 (List.map S1122.c a0)), .g (G.sl 5 (List.map S1124.c a1)), .g (G.int a2), .g (G.sl 1 (List.map cInt r1))])]) 36 rfl ⟨.inl ⟨rfl, rfl⟩, .inr (frz_arr rfl), trivial⟩ ⟨rfl, trivial⟩ rfl rfl ?_;refine aw_region [.w] ?_;refine st_w rfl rfl (eff_alloc 12 rfl zf192 rfl rfl) rfl ?_;refine st_nil ?_;refine aw_pin 9 12 rfl rfl rfl rfl fun ow1 ow2 => ?_;refine aw_seq ?_;refine aw_region [.p, .w] ?_;refine st rfl rfl (eff_makeFP rfl rfl rfl rfl rfl) rfl ?_;refine st_wn rfl rfl (eff_store (tv := .g (G.lit (cloV 106 ow1 ow2))) rfl ty192 rfl rfl rfl rfl rfl) ?_;refine st_nil ?_;refine aw_seq ?_;refine aw_seq ?_;obtain ⟨r7, br7, hR⟩ := bindO_inv hR;refine aw_region [.r, .p, .w, .p] ?_;refine st_r rfl rfl (eff_loadO rfl ty192 rfl rfl rfl) rfl ?_;refine st rfl rfl (eff_moveg rfl rfl) rfl ?_;refine st_w rfl rfl (eff_callCl (args := [.g (G.sl 1 (List.map cInt x2))]) 9 12 rfl K1106 rfl (ConBX.pin (c1106 (List.length x2 + 1) x2 (S1190.mk a0 a1 a2 r1) (by dsimp only; omega) (by dsimp only; omega) hrl (by omega) br7)) (at_cons rfl rfl at_nil) ⟨⟨_, rfl, rfl, rfl⟩, ⟨_, rfl, rfl, rfl⟩, trivial⟩ rfl rfl rfl) rfl ?_;refine st rfl rfl (eff_not rfl rfl) rfl ?_;refine st_nil ?_;refine aw_cond _ rfl (fun h4 => ?_) (fun h4 => ?_)
    ·replace h4 : (!r7.1) = true := h4;replace hR := condT hR h4;(try simp only [Bool.or_eq_true, Bool.and_eq_true, Bool.or_eq_false_iff, Bool.and_eq_false_iff, Bool.not_eq_true', Bool.not_eq_false', decide_eq_true_eq, decide_eq_false_iff_not] at h4);refine aw_seq ?_;refine aw_region [.p, .p] ?_;refine st rfl rfl (eff_assigng rfl rfl) rfl ?_;refine st rfl rfl (eff_assigng rfl rfl) rfl ?_;refine st_nil ?_;refine aw_ret ?_;obtain rfl := Option.some.inj hR;exact resN rfl ⟨rv_nilG rfl (nil_sl _), rv_g rfl, trivial⟩ (by simp)
    ·replace h4 : (!r7.1) = false := h4;replace hR := condF hR h4;(try simp only [Bool.or_eq_true, Bool.and_eq_true, Bool.or_eq_false_iff, Bool.and_eq_false_iff, Bool.not_eq_true', Bool.not_eq_false', decide_eq_true_eq, decide_eq_false_iff_not] at h4);refine aw_skip ?_;refine aw_seq ?_;refine aw_region [.p, .r, .p, .p] ?_;refine st rfl rfl (eff_fieldO rfl fl1191_3 rfl) rfl ?_;refine st_r rfl rfl (eff_loadO rfl ty82 rfl rfl rfl) rfl ?_;refine st rfl rfl (eff_assigng rfl rfl) rfl ?_;refine st rfl rfl (eff_assigng rfl rfl) rfl ?_;refine st_nil ?_;refine aw_ret ?_;obtain rfl := Option.some.inj hR;exact resN rfl ⟨rv_g rfl, rv_g rfl, trivial⟩ (by simp)
theorem own37 {l : List S1124} (h : l.length ≤ 1000) : (s1019 l).length ≤ 1000 := by rw [s1019_eq]; exact h
end Go.Sim
