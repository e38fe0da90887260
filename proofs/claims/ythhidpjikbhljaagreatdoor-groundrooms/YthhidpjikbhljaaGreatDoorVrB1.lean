/-
  What is proved: lemmas and contracts of functions on the way to the law groundRooms (part 10).
-/
import Derived.Test.YthhidpjikbhljaaGreatDoorVrA7
import Derived.Test.YthhidpjikbhljaaGreatDoorVrA9
import Derived.Test.YthhidpjikbhljaaGreatDoorVrA5
import Derived.Test.YthhidpjikbhljaaGreatDoorVrA8
import Derived.Scope
import Derived.RangeFuncBox
import Derived.RangeFuncNested
import Derived.RangeFuncBound
import Derived.RangeFuncCalls
import Derived.RangeFuncLeaves
import Derived.Shelf.Abstract
import Derived.Shelf.RegionOpen
import Derived.WalkKit
import Derived.OwnWalkIn
import Derived.TacticsInMore
import Derived.LoopNIn
import Derived.LoopIn
import Derived.Lib.Hide
import Derived.Test.YthhidpjikbhljaaGreatDoorVrA2
set_option linter.unusedSectionVars false
set_option linter.unusedSimpArgs false
set_option linter.unusedVariables false
set_option linter.unnecessarySimpa false
set_option linter.deprecated false
namespace Go.Sim
theorem f89_k : ∀ (l : List Int) (k k' : Nat), s89_l1 l k = s89_l1 l k'
 | [], _, _ => rfl
 | x :: l, k, k' => by simp only [s89_l1]; rw [f89_k l (k + 1) (k' + 1)]
theorem s89_nil : s89 [] = 0 := rfl
theorem s89_cons (x : Int) (l : List Int) : s89 (x :: l) = if x = 0 then s89 l else x := by
 unfold s89;simp only [s89_l1];rw [f89_k l (0 + 1) 0]
 by_cases h : x = 0 <;> simp [h]
theorem f1085_k : ∀ (l : List Int) (k : Nat), s1085_l1 l k = s89_l1 l k
 | [], _ => rfl
 | x :: l, k => by simp only [s1085_l1, s89_l1]; rw [f1085_k l (k + 1)]
theorem s1085_eq (l : List Int) : s1085 l = s89 l := f1085_k l 0
theorem s1088_eq (a b c : Int) : s1088 a b c = s90 a b c := rfl
theorem s1098_eq (a : Int) : s1098 a = s96 a := rfl
theorem s90_ite (a b c : Int) : s90 a b c = if b ≤ a ∧ a ≤ c then 0 else 3 := by
 unfold s90
 by_cases h1 : a < b <;> by_cases h2 : c < a <;> simp [h1, h2] <;> omega
theorem s1086_ite (b : Bool) (e : Int) : s1086 b e = if b = true then e else 0 := by cases b <;> rfl
theorem s1038_ite (b : Bool) (e : Int) : s1038 b e = if b = true then e else 0 := by cases b <;> rfl
theorem decode_lo {s : ByteArray} {i : Nat} (h : (s.get! i).toNat < 128) : Utf8.decode s i = ((s.get! i).toNat, 1) := by
 unfold Utf8.decode
 simp [h]
theorem decode_hi {s : ByteArray} {i : Nat} (h : 128 ≤ (s.get! i).toNat) : 128 ≤ (Utf8.decode s i).1 := by
 unfold Utf8.decode;simp only [Nat.add_zero];rw [if_neg (by omega)]
 repeat' split
 all_goals first | assumption | (simp [Utf8.runeError]; done) | (rename_i h2; simp only [Bool.and_eq_true, decide_eq_true_eq] at h2; have h3 := h2.1; dsimp only; omega)
theorem get_toList {s : ByteArray} {i : Nat} (h : i < s.data.toList.length) : s.get! i = s.data.toList[i] := by
 have h' : i < s.data.size := by simpa using h
 show s.data[i]! = _;rw [getElem!_pos s.data i h']
 simp
theorem name_loop (s : ByteArray) : ∀ n pos, s.size ≤ pos + n → s147_l1 (runesF s n pos) = s91_l1 (s.data.toList.drop pos) pos := by
 intro n
 induction n with
 | zero =>
  intro pos h;rw [List.drop_eq_nil_of_le (by simpa using h)]; rfl
 | succ n ih =>
  intro pos h;unfold runesF
  split
  ·rename_i hp
   have hl : pos < s.data.toList.length := by simpa using hp
   rw [List.drop_eq_getElem_cons hl, s147_l1, s91_l1, ← get_toList hl]
   rcases Nat.lt_or_ge (s.get! pos).toNat 128 with hb | hb
   ·rw [decode_lo hb, ih (pos + 1) (by omega)];have e1 : (decide (((pos : Nat) : Int) = 0)) = decide ((pos : Int) = 0) := rfl;dsimp only;rw [Bool.or_comm ((decide ((65 : Int) ≤ _)) && _)]
   ·have hb2 := decode_hi hb
    have c1 : (!(((decide ((65 : Int) ≤ ((Utf8.decode s pos).1 : Int))) && (decide (((Utf8.decode s pos).1 : Int) ≤ 90))) || ((decide ((97 : Int) ≤ ((Utf8.decode s pos).1 : Int))) && (decide (((Utf8.decode s pos).1 : Int) ≤ 122))))) = true := by
     simp; omega
    have c2 : (!(((decide ((97 : Int) ≤ ((s.get! pos).toNat : Int))) && (decide (((s.get! pos).toNat : Int) ≤ 122))) || ((decide ((65 : Int) ≤ ((s.get! pos).toNat : Int))) && (decide (((s.get! pos).toNat : Int) ≤ 90))))) = true := by
     simp; omega
    dsimp only;rw [c1, c2]
    have d1 : (decide (((Utf8.decode s pos).1 : Int) ≠ 95) && (decide (((Utf8.decode s pos).1 : Int) < 48) || decide (57 < ((Utf8.decode s pos).1 : Int)))) = true := by simp; omega
    have d2 : (decide (((s.get! pos).toNat : Int) ≠ 95) && (decide (((s.get! pos).toNat : Int) < 48) || decide (57 < ((s.get! pos).toNat : Int)))) = true := by simp; omega
    rw [d1, d2]; simp
  ·rename_i hp
   rw [List.drop_eq_nil_of_le (by simpa using hp)]; rfl
theorem name_eq (s : ByteArray) : s147 s = s91 s := by
 unfold s147 s91 runes;rw [name_loop s _ 0 (by omega)]; rfl
theorem s1089_eq (s : ByteArray) : s1089 s = s1093 s := by
 unfold s1089 s1093; rw [name_eq, s1086_ite, cond_eq_ite]
theorem lim_l1 (l : List S1063) (k : Nat) (x : List S1063) : s1022_l1 l k x = x ++ l := by
 induction l generalizing k x with
 | nil => simp [s1022_l1]
 | cons y l ih => simp [s1022_l1, ih]
theorem s1022_eq (l : List S1063) : s1022 l = l := by unfold s1022; rw [lim_l1]; rfl
theorem ixO_at {α : Type} {l : List α} {i : Nat} (h : i < l.length) : ixO l (i : Int) = some l[i] := by
 unfold ixO; rw [decide_eq_true (by omega), cond_true]; simp [h]
theorem index_k {α : Type} (p : α → Bool) (F : List α → Nat → Int) (h0 : ∀ k, F [] k = -1) (h1 : ∀ y t k, F (y :: t) k = bif p y then ((k : Nat) : Int) else F t (k + 1)) :
  ∀ l k, decide (0 ≤ F l k) = l.any p
 | [], k => by rw [h0]; rfl
 | y :: t, k => by
  rw [h1, List.any_cons]
  cases p y with
  | true => simp
  | false => simpa using index_k p F h0 h1 t (k + 1)
theorem s88_eq (l : List ByteArray) (a : ByteArray) : s88 l a = l.any fun x => decide (a = x) :=
 index_k (fun x => decide (a = x)) (s148_l1 a) (fun _ => rfl) (fun _ _ _ => rfl) l 0
theorem movs_l (a : List S1079) : ∀ t k, s1028_l1 t k = s1099_l1 a s1100 t k
 | [], k => rfl
 | y :: t, k => by
  rw [s1028_l1, s1099_l1, ← movs_l a t (k + 1)];unfold s1100 s1028_j2 s1028_j1;rw [s1085_eq, s1086_ite, s1086_ite, name_eq, s1089_eq, s1088_eq, s1088_eq, s1088_eq, s1098_eq];simp only [s89_cons, s89_nil, s1092]
  by_cases c1 : s96 y.Moment = 0 <;> by_cases c2 : y.Kind = ⟨#[65]⟩ <;> by_cases c3 : y.Kind = ⟨#[68]⟩ <;> by_cases c4 : s1093 y.Terminal = 0 <;> by_cases c5 : s90 y.Seats 0 999 = 0 <;> by_cases c6 : s90 y.Size 1 9 = 0 <;> by_cases c7 : s90 y.Noise 0 99 = 0 <;> by_cases c8 : s91 y.Name = true <;> simp [c1, c2, c3, c4, c5, c6, c7, c8]
theorem movs_eq (a : List S1079) : s1028 a = s1027 a := by
 unfold s1028 s1027 s1099;rw [movs_l a a 0]
theorem seats_l (a : List S1063) : ∀ t k, s1030_l1 t k = s1101_l1 a s1102 t k
 | [], k => rfl
 | y :: t, k => by
  rw [s1030_l1, s1101_l1, ← seats_l a t (k + 1)];unfold s1102 s1030_j1;rw [s1085_eq, s88_eq, s1086_ite, s1089_eq, s1088_eq, s1088_eq, s1088_eq];simp only [s89_cons, s89_nil, List.any_cons, List.any_nil]
  by_cases c1 : s1093 y.Terminal = 0 <;> by_cases c2 : y.Kind = ⟨#[65]⟩ <;> by_cases c3 : y.Kind = ⟨#[68]⟩ <;> by_cases c4 : y.Kind = ⟨#[84]⟩ <;> by_cases c5 : s90 y.Length 1 1440 = 0 <;> by_cases c6 : s90 y.Step 1 y.Length = 0 <;> by_cases c7 : s90 y.Most 0 999999999 = 0 <;> simp [c1, c2, c3, c4, c5, c6, c7]
theorem seats_eq (a : List S1063) : s1030 a = s1029 a := by
 unfold s1030 s1029 s1101;rw [seats_l a a 0]
theorem s89_zero : ∀ (l : List Int), s89 l = 0 ↔ ∀ x ∈ l, x = 0
 | [] => by simp [s89_nil]
 | x :: l => by
  rw [s89_cons]
  by_cases h : x = 0
  ·simp [h, s89_zero l]
  ·simp [h]
theorem s90_zero (a b c : Int) : s90 a b c = 0 ↔ b ≤ a ∧ a ≤ c := by rw [s90_ite]; split <;> simp_all
theorem s96_zero (a : Int) : s96 a = 0 ↔ 0 ≤ a ∧ a ≤ 143999999 := s90_zero _ _ _
theorem s1086_zero (b : Bool) (e : Int) (he : e ≠ 0) : s1086 b e = 0 ↔ b = false := by rw [s1086_ite]; cases b <;> simp [he]
structure TurnOk (t : S1124) : Prop where
 s0 : 0 ≤ t.Start
 se : t.Start ≤ t.End
 e1 : t.End ≤ 143999999
 z0 : 1 ≤ t.Size
 z1 : t.Size ≤ 9
 nm : s91 t.Name = true
structure StandOk (t : S1122) : Prop where
 z0 : 1 ≤ t.Size
 z1 : t.Size ≤ 9
 nm : s91 t.Name = true
structure MovOk (m : S1079) : Prop where
 m0 : 0 ≤ m.Moment
 m1 : m.Moment ≤ 143999999
 s0 : 0 ≤ m.Seats
 s1 : m.Seats ≤ 999
 n0 : 0 ≤ m.Noise
 n1 : m.Noise ≤ 99
 kd : m.Kind = ⟨#[65]⟩ ∨ m.Kind = ⟨#[68]⟩
 nm : s91 m.Name = true
theorem movs_all (a : List S1079) : ∀ t k, s1099_l1 a s1100 t k = 0 → ∀ y ∈ t, MovOk y
 | [], _, _, y, hy => by cases hy
 | z :: t, k, h, y, hy => by
  rw [s1099_l1] at h
  by_cases h0 : s1100 z (List.take (Int.toNat ((k : Nat) : Int)) a) = 0
  ·rw [h0] at h
   rcases List.mem_cons.1 hy with rfl | hy
   ·unfold s1100 at h0;rw [s1085_eq, s89_zero] at h0;simp only [List.mem_cons, List.not_mem_nil, or_false, forall_eq_or_imp, forall_eq] at h0;obtain ⟨g1, g2, _, g3, _, g5, g6⟩ := h0;rw [s1098_eq, s96_zero] at g1;rw [s1086_zero _ _ (by decide)] at g2;rw [s1086_zero _ _ (by decide), name_eq] at g6;rw [s1088_eq, s90_zero] at g3 g5;refine ⟨g1.1, g1.2, g3.1, g3.2, g5.1, g5.2, ?_, by simpa using g6⟩
    by_cases h1 : y.Kind = ⟨#[65]⟩
    ·exact .inl h1
    ·by_cases h2 : y.Kind = ⟨#[68]⟩
     ·exact .inr h2
     ·simp [h1, h2] at g2
   ·exact movs_all a t (k + 1) (by simpa using h) y hy
  ·rw [decide_eq_true h0, cond_true] at h; exact absurd h h0
theorem movs_ok {l : List S1079} (h : s1027 l = 0) : l.length ≤ 256 ∧ ∀ y ∈ l, MovOk y := by
 unfold s1027 s1099 at h
 cases hc : decide ((256 : Int) < (List.length l : Int))
 ·rw [hc] at h;exact ⟨by have := of_decide_eq_false hc; omega, movs_all l l 0 h⟩
 ·rw [hc] at h; simp at h
structure SeatOk (x : S1063) : Prop where
 l0 : 1 ≤ x.Length
 l1 : x.Length ≤ 1440
 s0 : 1 ≤ x.Step
 s1 : x.Step ≤ x.Length
 m0 : 0 ≤ x.Most
 m1 : x.Most ≤ 999999999
 kd : x.Kind = ⟨#[65]⟩ ∨ x.Kind = ⟨#[68]⟩ ∨ x.Kind = ⟨#[84]⟩
theorem seats_all (a : List S1063) : ∀ t k, s1101_l1 a s1102 t k = 0 → ∀ y ∈ t, SeatOk y
 | [], _, _, y, hy => by cases hy
 | z :: t, k, h, y, hy => by
  rw [s1101_l1] at h
  by_cases h0 : s1102 z (List.take (Int.toNat ((k : Nat) : Int)) a) = 0
  ·rw [h0] at h
   rcases List.mem_cons.1 hy with rfl | hy
   ·unfold s1102 at h0;rw [s1085_eq, s89_zero] at h0;simp only [List.mem_cons, List.not_mem_nil, or_false, forall_eq_or_imp, forall_eq] at h0;obtain ⟨_, g2, g3, g4, g5⟩ := h0;rw [s1086_zero _ _ (by decide), s88_eq] at g2;rw [s1088_eq, s90_zero] at g3 g4 g5;refine ⟨g3.1, g3.2, g4.1, g4.2, g5.1, g5.2, ?_⟩
    simp at g2
    by_cases h1 : y.Kind = ⟨#[65]⟩
    ·exact .inl h1
    ·by_cases h2 : y.Kind = ⟨#[68]⟩
     ·exact .inr (.inl h2)
     ·exact .inr (.inr (g2 h1 h2))
   ·exact seats_all a t (k + 1) (by simpa using h) y hy
  ·rw [decide_eq_true h0, cond_true] at h; exact absurd h h0
theorem seats_ok {l : List S1063} (h : s1029 l = 0) : l.length ≤ 32 ∧ ∀ y ∈ l, SeatOk y := by
 unfold s1029 s1101 at h
 cases hc : decide ((32 : Int) < (List.length l : Int))
 ·rw [hc] at h;exact ⟨by have := of_decide_eq_false hc; omega, seats_all l l 0 h⟩
 ·rw [hc] at h; simp at h
theorem s1040_eq (l : List Int) : s1040 l = s89 l := id rfl
def ltM (a b : S1079) : Bool := decide (a.Moment < b.Moment)
theorem s1153_lt (a b : S1079) : decide (s1153 a b < 0) = ltM a b := by
 have h : ∀ x, s202 x = false := fun x => by unfold s202; simp
 unfold s1153 s167 ltM;rw [h, h]
 by_cases h1 : a.Moment < b.Moment
 ·simp [h1]
 ·by_cases h2 : b.Moment < a.Moment <;> simp [h1, h2]
def ownL (a0 : S1063) (l : List S1079) : List S1079 := isort ltM (l.filter (fun m => s1116 a0 m))
def sums (x : Int) : List S1079 → List Int
 | [] => [x]
 | m :: l => x :: sums (x + m.Seats) l
theorem load_loop (r : List S1079) (hr : ∀ m ∈ r, 0 ≤ m.Seats ∧ m.Seats ≤ 999) : ∀ (t pre : List S1079) (ms bs : List Int) (x : Int), r = pre ++ t → ms = pre.map S1079.Moment → bs.length = pre.length → 0 ≤ x → x + 999 * (t.length : Int) ≤ 1000000 → r.length ≤ 1000 →
  s1111_l1 r t.length (pre.length : Int) ms (bs ++ [x]) = some ⟨r.map S1079.Moment, bs ++ sums x t⟩
 | [], pre, ms, bs, x, hp, hm, _, _, _, _ => by
  rw [List.length_nil, s1111_l1, hm, hp]; simp [sums]
 | y :: t, pre, ms, bs, x, hp, hm, hb, h0, h1, hl => by
  rw [List.length_cons, s1111_l1]
  have i1 : ixO r (pre.length : Int) = some y := by rw [hp]; exact ixO_app
  have i2 : ixO (bs ++ [x]) (pre.length : Int) = some x := ixO_app' (by rw [hb]);have hy := hr y (by rw [hp]; simp);rw [List.length_cons] at h1;rw [i1, i2];simp only [bindO];rw [wrap_i64 (by unfold I64; omega)];have ih := load_loop r hr t (pre ++ [y]) (ms ++ [y.Moment]) (bs ++ [x]) (x + y.Seats) (by rw [hp]; simp) (by rw [hm]; simp) (by simp [hb]) (by omega) (by omega) hl;rw [show ((pre.length : Int) + 1) = (((pre ++ [y]).length : Nat) : Int) by simp, ih]
  simp [sums]
theorem s1111_ok (a0 : S1063) {l : List S1079} (hr : ∀ m ∈ l, 0 ≤ m.Seats ∧ m.Seats ≤ 999) (hl : l.length ≤ 12) : s1111 a0 l = some ⟨(ownL a0 l).map S1079.Moment, sums 0 (ownL a0 l)⟩ := by
 unfold s1111;obtain ⟨L, h1, h2, h3⟩ := s1149_ok l (fun x0 => s1151 x0 a0)
 have hp : (fun y => !(s1151 y a0)) = fun m => s1116 a0 m := by funext m; unfold s1151; simp
 rw [h1];simp only [bindO];rw [h2, hp, s1152_ok (lt := ltM) (fun y _ x _ => ⟨_, rfl, s1153_lt x y⟩)]
 simp only
 have hperm := isort_perm ltM (l.filter fun m => s1116 a0 m);have hlen : (l.filter fun m => s1116 a0 m).length = (ownL a0 l).length := hperm.length_eq.symm;rw [hlen, show (((ownL a0 l).length : Int) - 0).toNat = (ownL a0 l).length by omega]
 have hol : (ownL a0 l).length ≤ 12 := by rw [← hlen]; exact Nat.le_trans (List.length_filter_le _ _) hl
 have hmem : ∀ m ∈ ownL a0 l, 0 ≤ m.Seats ∧ m.Seats ≤ 999 := fun m hm => hr m (List.mem_filter.1 (hperm.mem_iff.1 hm)).1;have := load_loop (ownL a0 l) hmem (ownL a0 l) [] [] [] 0 rfl rfl rfl (by decide) (by omega) (by omega);show s1111_l1 (ownL a0 l) (ownL a0 l).length 0 [] [0] = _
 simpa using this
theorem len1111 {a0 : S1063} {l : List S1079} {r : S1195} (h : s1111 a0 l = some r) (hl : l.length ≤ 12) : r.moments.length ≤ 12 := by
 have key : ∀ (q : List S1079) (n : Nat) (x : Int) (ms bs : List Int) (r : S1195), s1111_l1 q n x ms bs = some r → r.moments.length = ms.length + n := by
  intro q n
  induction n with
  | zero => intro x ms bs r h; rw [s1111_l1] at h; cases h; simp
  | succ n ih =>
   intro x ms bs r h;rw [s1111_l1] at h;obtain ⟨y, _, h⟩ := bindO_inv h;obtain ⟨z, _, h⟩ := bindO_inv h;have := ih _ _ _ _ h;rw [this]; simp; omega
 unfold s1111 at h;obtain ⟨r1, h1, h⟩ := bindO_inv h;obtain ⟨r2, h2, h⟩ := bindO_inv h;have := key _ _ _ _ _ _ h;have h3 := num1149 h1
 simp at this; omega
section
variable {E : Env} {o : Oper} {ev : Operand → TV}
theorem wrap_u64 {n : Int} (h : 0 ≤ n) (h' : n ≤ 9223372036854775807) : IntKind.u64.wrap n = n := by
 have e : IntKind.u64.wrap n = n % 18446744073709551616 := by
  simp [IntKind.wrap, IntKind.bits, IntKind.signed]
 rw [e]; omega
theorem eff_convu {s t : TypeId} {x : Operand} {n : Int} {ds : TypeDesc} (ho : o.op = .convert s t x) (hs : E.P.underlying s = some ds) (ht : E.P.underlying t = some (.int .u64)) (hx : ev x = .g (.int n)) (h : 0 ≤ n) (h' : n ≤ 9223372036854775807) (mem : Mem) : Eff E o mem ev (.g (.lit (.int .u64 n))) := by
 have := eff_conv (E := E) ho hs ht hx mem
 rwa [wrap_u64 h h'] at this
theorem eff_convi {s t : TypeId} {x : Operand} {n : Int} {ds : TypeDesc} (ho : o.op = .convert s t x) (hs : E.P.underlying s = some ds) (ht : E.P.underlying t = some (.int .i64)) (hx : ev x = .g (.lit (.int .u64 n))) (h : I64 n) (mem : Mem) : Eff E o mem ev (.g (.int n)) := by
 have := eff_conv (E := E) ho hs ht hx mem
 rwa [wrap_i64 h] at this
theorem eff_half {t t' : TypeId} {x y : Operand} {k : IntKind} {a : Int} (ho : o.op = .binOp .shr t x y t') (hx : ev x = .g (.lit (.int .u64 a))) (hy : ev y = .g (.lit (.int k 1))) (h0 : 0 ≤ a) (mem : Mem) : Eff E o mem ev (.g (.lit (.int .u64 (a / 2)))) :=
 eff_bin ho hx hy (fun w => ⟨.int .u64 (a / 2), by
  have h1 : Int.fdiv a (2 ^ min (1 : Int).toNat IntKind.u64.bits) = a / 2 := Int.fdiv_eq_ediv_of_nonneg a (by decide);simp only [eqGuard, binOp, Op.shift, h1]
  rfl, fun _ => rfl⟩) mem
end
end Go.Sim
set_option maxRecDepth 10000
namespace Go.Sim
open Go.Proofs
def s1194 (a0 : Int) (a1 : Int) : Bool :=
 ((s202 a0) && (!(s202 a1))) || (decide (a0 < a1))
theorem c1194 {g : List (Nat × List Value)} (a0 : Int) (a1 : Int)    : Con (EG g) 194 [G.int a0, G.int a1] (G.bool (s1194 a0 a1)) := by
 generalize hR : s1194 a0 a1 = R;unfold s1194 at hR;refine con_of_aw Tryz.func194 rfl rfl fun w0 M0 => ?_;refine aw_seq ?_;refine aw_region [.p] ?_;refine st rfl rfl (eff_assigng rfl rfl) rfl ?_;refine st_nil ?_;refine aw_seq ?_;refine aw_region [.p, .p, .p, .p, .p, .p, .p, .p, .p, .p, .p, .p, .p] ?_;refine st rfl rfl (eff_moveg rfl rfl) rfl ?_;refine st rfl rfl (eff_call rfl K202 rfl (c202 a0) (ag_cons rfl ag_nil)) rfl ?_;refine st rfl rfl (eff_moveg rfl rfl) rfl ?_;refine st_g rfl rfl rfl (gb_bool _ _) (fun h => eff_moveg rfl rfl) rfl ?_;refine st_g rfl rfl rfl (gb_bool _ _) (fun h => eff_call rfl K202 rfl (c202 a1) (ag_cons (gd h rfl) ag_nil)) rfl ?_;refine st_g rfl rfl rfl (gb_bool _ _) (fun h => eff_not rfl (gd h rfl)) rfl ?_;refine st rfl rfl (eff_and rfl rfl rfl rfl) rfl ?_;refine st rfl rfl (eff_moveg rfl rfl) rfl ?_;refine st_g rfl rfl rfl (gb_bool _ _) (fun h => eff_moveg rfl rfl) rfl ?_;refine st_g rfl rfl rfl (gb_bool _ _) (fun h => eff_moveg rfl rfl) rfl ?_;refine st_g rfl rfl rfl (gb_bool _ _) (fun h => eff_lss rfl (gd h rfl) (gd h rfl)) rfl ?_;refine st rfl rfl (eff_or rfl rfl rfl rfl) rfl ?_;refine st rfl rfl (eff_assigng rfl rfl) rfl ?_;refine st_nil ?_;refine aw_ret ?_;subst hR;exact res_c rfl (rv_g rfl)
def s1195 (a0 : Int) : Bool :=
 decide (a0 ≠ a0)
theorem c1195 {g : List (Nat × List Value)} (a0 : Int)    : Con (EG g) 195 [G.int a0] (G.bool (s1195 a0)) := by
 generalize hR : s1195 a0 = R;unfold s1195 at hR;refine con_of_aw Tryz.func195 rfl rfl fun w0 M0 => ?_;refine aw_seq ?_;refine aw_region [.p] ?_;refine st rfl rfl (eff_assigng rfl rfl) rfl ?_;refine st_nil ?_;refine aw_seq ?_;refine aw_region [.p, .p, .p, .p] ?_;refine st rfl rfl (eff_moveg rfl rfl) rfl ?_;refine st rfl rfl (eff_moveg rfl rfl) rfl ?_;refine st rfl rfl (eff_neq rfl rfl rfl) rfl ?_;refine st rfl rfl (eff_assigng rfl rfl) rfl ?_;refine st_nil ?_;refine aw_ret ?_;subst hR;exact res_c rfl (rv_g rfl)
def s1175_l1 (a0 : List Int) (a1 : Int) : Nat → Int → Int → Option (Int × Bool)
 | 0, _, _ => none
 | k3 + 1, x1, x2 => (bif decide (x1 < x2) then bindO (ixO a0 ((x1 + x2) / 2)) fun y4 => (bif (s1194 y4 a1) then s1175_l1 a0 a1 k3 (((x1 + x2) / 2) + 1) x2 else s1175_l1 a0 a1 k3 x1 ((x1 + x2) / 2)) else bindO (bif decide (x1 < (List.length a0 : Int)) then ixO a0 x1 else some default) fun y5 => bindO (bif (decide (x1 < (List.length a0 : Int))) && (!(decide (y5 = a1))) then ixO a0 x1 else some default) fun y6 => some (x1, (decide (x1 < (List.length a0 : Int))) && ((decide (y5 = a1)) || ((s1195 y6) && (s1195 a1)))))
def s1175 (a0 : List Int) (a1 : Int) : Option (Int × Bool) :=
 s1175_l1 a0 a1 ((((List.length a0 : Int) - 0).toNat) + 1) 0 (List.length a0 : Int)
theorem c1175 {g : List (Nat × List Value)} (a0 : List Int) (a1 : Int) {R : Int × Bool}  (hb : a0.length ≤ 1000) (hR : s1175 a0 a1 = some R) : Con (EG g) 175 [G.sl 1 (List.map cInt a0), G.int a1] (G.tup [G.int R.1, G.bool R.2]) := by
 unfold s1175 at hR;refine con_of_aw Tryz.func175 rfl rfl fun w0 M0 => ?_;refine len_sl (f := cInt) (l := a0) 0 rfl fun hla0 => ?_;refine aw_seq ?_;refine aw_region [.p, .p] ?_;refine st rfl rfl (eff_assigng rfl rfl) rfl ?_;refine st rfl rfl (eff_assigng rfl rfl) rfl ?_;refine st_nil ?_;refine aw_seq ?_;refine aw_region [.p, .p, .p] ?_;refine st rfl rfl (eff_moveg rfl rfl) rfl ?_;refine st rfl rfl (eff_lenM (f := cInt) (l := a0) rfl Tryz.underlying51 rfl) rfl ?_;refine st rfl rfl (eff_assigng rfl rfl) rfl ?_;refine st_nil ?_;refine aw_seq ?_;refine aw_region [.p, .p, .p] ?_;refine st rfl rfl (eff_moveg rfl rfl) rfl ?_;refine st rfl rfl (eff_assigng rfl rfl) rfl ?_;refine st rfl rfl (eff_assigng rfl rfl) rfl ?_;refine st_nil ?_;refine aw_seq ?_;refine aw_block ?_;refine aw_loop_g (γ := Nat × Int × Int) (fun g => ([(0, .g (G.sl 1 (List.map cInt a0))), (1, .g (G.int a1)), (6, .g (G.int (List.length a0 : Int))), (7, .g (G.int g.2.1)), (8, .g (G.int g.2.2))], [])) (fun g => (g.2.2 - g.2.1).toNat < g.1 ∧ 0 ≤ g.2.1 ∧ g.2.1 ≤ g.2.2 ∧ g.2.2 ≤ (List.length a0 : Int) ∧ s1175_l1 a0 a1 g.1 g.2.1 g.2.2 = some R) (fun g => g.1) ⟨rfl, ((((List.length a0 : Int) - 0).toNat) + 1, 0, (List.length a0 : Int)), ⟨rfl, rfl, rfl, rfl, rfl, trivial⟩, trivial, rfl, ⟨Nat.lt_succ_self _, (by first | omega | (dsimp only; omega) | simp), (by first | omega | (dsimp only; omega) | simp), (by first | omega | (dsimp only; omega) | simp), hR⟩, trivial⟩ ?_
 ·rintro ⟨k3, x1, x2⟩ ⟨hk1, iv1_0, iv1_1, iv1_2, hR⟩;replace hk1 : (x2 - x1).toNat < k3 := hk1;replace hR : s1175_l1 a0 a1 k3 x1 x2 = some R := hR;replace iv1_0 : 0 ≤ x1 := iv1_0;replace iv1_1 : x1 ≤ x2 := iv1_1;replace iv1_2 : x2 ≤ (List.length a0 : Int) := iv1_2;obtain ⟨k3, rfl⟩ : ∃ m, k3 = m + 1 := ⟨k3 - 1, by omega⟩;rw [s1175_l1] at hR;(try dsimp only at hR);refine aw_seq ?_;refine aw_seq ?_;refine aw_region [.p, .p, .p] ?_;refine st rfl rfl (eff_moveg rfl rfl) rfl ?_;refine st rfl rfl (eff_moveg rfl rfl) rfl ?_;refine st rfl rfl (eff_lss rfl rfl rfl) rfl ?_;refine st_nil ?_;refine aw_cond _ rfl (fun h1 => ?_) (fun h1 => ?_)
  ·replace h1 : (decide (x1 < x2)) = true := h1;replace hR := condT hR h1;(try simp only [Bool.or_eq_true, Bool.and_eq_true, Bool.or_eq_false_iff, Bool.and_eq_false_iff, Bool.not_eq_true', Bool.not_eq_false', decide_eq_true_eq, decide_eq_false_iff_not] at h1);refine aw_skip ?_;refine aw_block ?_;refine aw_seq ?_;refine aw_region [.p, .p, .p, .p, .p, .p, .p] ?_;refine st rfl rfl (eff_moveg rfl rfl) rfl ?_;refine st rfl rfl (eff_moveg rfl rfl) rfl ?_;refine st rfl rfl (eff_add rfl rfl rfl (by unfold I64; (try dsimp only); omega)) rfl ?_;refine st rfl rfl (eff_convu rfl Tryz.underlying3 Tryz.underlying225 rfl (by (try dsimp only); omega) (by (try dsimp only); omega)) rfl ?_;refine st rfl rfl (eff_half rfl rfl rfl (by (try dsimp only); omega)) rfl ?_;refine st rfl rfl (eff_convi rfl Tryz.underlying225 Tryz.underlying3 rfl (by unfold I64; (try dsimp only); omega)) rfl ?_;refine st rfl rfl (eff_assigng rfl rfl) rfl ?_;refine st_nil ?_;refine aw_seq ?_;obtain ⟨y4, by4, hR⟩ := bindO_inv hR;refine aw_region [.p, .p, .p, .p, .p, .p] ?_;refine st rfl rfl (eff_moveg rfl rfl) rfl ?_;refine st rfl rfl (eff_moveg rfl rfl) rfl ?_;refine st rfl rfl (eff_ix (f := cInt) (l := a0) (a := y4) rfl Tryz.underlying51 ty3 rfl rfl (ixO_nn by4) (ixO_get by4)) rfl ?_;refine st rfl rfl (eff_load rfl ty3 rfl) rfl ?_;refine st rfl rfl (eff_moveg rfl rfl) rfl ?_;refine st rfl rfl (eff_call rfl K1194 rfl (c1194 y4 a1) (ag_cons rfl (ag_cons rfl ag_nil))) rfl ?_;refine st_nil ?_;refine aw_cond _ rfl (fun h2 => ?_) (fun h2 => ?_)
   ·replace h2 : ((s1194 y4 a1)) = true := h2;replace hR := condT hR h2;(try simp only [Bool.or_eq_true, Bool.and_eq_true, Bool.or_eq_false_iff, Bool.and_eq_false_iff, Bool.not_eq_true', Bool.not_eq_false', decide_eq_true_eq, decide_eq_false_iff_not] at h2);refine aw_region [.p, .p, .p] ?_;refine st rfl rfl (eff_moveg rfl rfl) rfl ?_;refine st rfl rfl (eff_add rfl rfl rfl (by unfold I64; (try dsimp only); omega)) rfl ?_;refine st rfl rfl (eff_assigng rfl rfl) rfl ?_;refine st_nil ?_;exact ⟨rfl, (k3, ((x1 + x2) / 2) + 1, x2), ⟨rfl, rfl, rfl, rfl, rfl, trivial⟩, trivial, rfl, ⟨(by first | omega | (dsimp only; omega) | (simp at *; omega)), (by first | omega | (dsimp only; omega) | (simp at *; omega)), (by first | omega | (dsimp only; omega) | (simp at *; omega)), (by first | omega | (dsimp only; omega) | (simp at *; omega)), hR⟩, by simp⟩
   ·replace h2 : ((s1194 y4 a1)) = false := h2;replace hR := condF hR h2;(try simp only [Bool.or_eq_true, Bool.and_eq_true, Bool.or_eq_false_iff, Bool.and_eq_false_iff, Bool.not_eq_true', Bool.not_eq_false', decide_eq_true_eq, decide_eq_false_iff_not] at h2);refine aw_region [.p, .p] ?_;refine st rfl rfl (eff_moveg rfl rfl) rfl ?_;refine st rfl rfl (eff_assigng rfl rfl) rfl ?_;refine st_nil ?_;exact ⟨rfl, (k3, x1, (x1 + x2) / 2), ⟨rfl, rfl, rfl, rfl, rfl, trivial⟩, trivial, rfl, ⟨(by first | omega | (dsimp only; omega) | (simp at *; omega)), (by first | omega | (dsimp only; omega) | (simp at *; omega)), (by first | omega | (dsimp only; omega) | (simp at *; omega)), (by first | omega | (dsimp only; omega) | (simp at *; omega)), hR⟩, by simp⟩
  ·replace h1 : (decide (x1 < x2)) = false := h1;replace hR := condF hR h1;(try simp only [Bool.or_eq_true, Bool.and_eq_true, Bool.or_eq_false_iff, Bool.and_eq_false_iff, Bool.not_eq_true', Bool.not_eq_false', decide_eq_true_eq, decide_eq_false_iff_not] at h1);refine aw_exit ?_;refine aw_seq ?_;obtain ⟨y5, by5, hR⟩ := bindO_inv hR;obtain ⟨y6, by6, hR⟩ := bindO_inv hR;refine aw_region [.p, .p, .p, .p, .p, .p, .p, .p, .p, .p, .p, .p, .p, .p, .p, .p, .p, .p, .p, .p, .p, .p, .p, .p, .p] ?_;refine st rfl rfl (eff_moveg rfl rfl) rfl ?_;refine st rfl rfl (eff_moveg rfl rfl) rfl ?_;refine st rfl rfl (eff_moveg rfl rfl) rfl ?_;refine st rfl rfl (eff_lss rfl rfl rfl) rfl ?_;refine st rfl rfl (eff_moveg rfl rfl) rfl ?_;refine st_g rfl rfl rfl (gb_bool _ _) (fun h => eff_moveg rfl rfl) rfl ?_;refine st_g rfl rfl rfl (gb_bool _ _) (fun h => eff_moveg rfl rfl) rfl ?_;refine st_g rfl rfl rfl (gb_bool _ _) (fun h => eff_ix (f := cInt) (l := a0) (a := y5) rfl Tryz.underlying51 ty3 (gd h rfl) (gd h rfl) (ixO_nn (condT1 by5 h)) (ixO_get (condT1 by5 h))) rfl ?_;refine st_g rfl rfl rfl (gb_bool _ _) (fun h => eff_load rfl ty3 (gd h rfl)) rfl ?_;refine st_g rfl rfl rfl (gb_bool _ _) (fun h => eff_moveg rfl rfl) rfl ?_;refine st_g rfl rfl rfl (gb_bool _ _) (fun h => eff_eql rfl (gd h rfl) (gd h rfl)) rfl ?_;refine st_g rfl rfl rfl (gb_bool _ _) (fun h => eff_moveg rfl (gd h rfl)) rfl ?_;refine st_g rfl rfl rfl (gb_if _ _ _) (fun h => eff_moveg rfl rfl) rfl ?_;refine st_g rfl rfl rfl (gb_if _ _ _) (fun h => eff_moveg rfl rfl) rfl ?_;refine st_g rfl rfl rfl (gb_if _ _ _) (fun h => eff_ix (f := cInt) (l := a0) (a := y6) rfl Tryz.underlying51 ty3 (gd h rfl) (gd h rfl) (ixO_nn (condS by6 h)) (ixO_get (condS by6 h))) rfl ?_;refine st_g rfl rfl rfl (gb_if _ _ _) (fun h => eff_load rfl ty3 (gd h rfl)) rfl ?_;refine st_g rfl rfl rfl (gb_if _ _ _) (fun h => eff_call rfl K1195 rfl (c1195 y6) (ag_cons (gd h rfl) ag_nil)) rfl ?_;refine st_g rfl rfl rfl (gb_if _ _ _) (fun h => eff_moveg rfl (gd h rfl)) rfl ?_;refine st_g rfl rfl rfl (gb_if _ _ _) (fun h => eff_moveg rfl rfl) rfl ?_;refine st_g rfl rfl rfl (gb_if _ _ _) (fun h => eff_call rfl K1195 rfl (c1195 a1) (ag_cons (gd h rfl) ag_nil)) rfl ?_;refine st_g rfl rfl rfl (gb_if _ _ _) (fun h => eff_and rfl (gd h rfl) rfl (gd2 h rfl)) rfl ?_;refine st_g rfl rfl rfl (gb_bool _ _) (fun h => eff_or rfl (gd h rfl) rfl (gd2 h rfl)) rfl ?_;refine st rfl rfl (eff_and rfl rfl rfl rfl) rfl ?_;refine st rfl rfl (eff_assigng rfl rfl) rfl ?_;refine st rfl rfl (eff_assigng rfl rfl) rfl ?_;refine st_nil ?_;refine aw_ret ?_;obtain rfl := Option.some.inj hR;exact resN rfl ⟨rv_g rfl, rv_g rfl, trivial⟩ (by simp)
def s1113 (a0 : S1063) (a1 : S1079) : Bool :=
 ((decide (a0.Terminal = (⟨#[]⟩))) || (decide (a0.Terminal = a1.Terminal))) && ((decide (a0.Kind = (⟨#[84]⟩))) || (decide (a0.Kind = a1.Kind)))
theorem c1113 {g : List (Nat × List Value)} (a0 : S1063) (a1 : S1079)    : Con (EG g) 113 [G.agg [G.str a0.Terminal, G.str a0.Kind, G.int a0.Length, G.int a0.Step, G.int a0.Most], G.agg [G.int a1.Moment, G.str a1.Kind, G.str a1.Terminal, G.int a1.Seats, G.int a1.Size, G.int a1.Noise, G.str a1.Name]] (G.bool (s1113 a0 a1)) := by
 generalize hR : s1113 a0 a1 = R;unfold s1113 at hR;refine con_of_aw Tryz.func113 rfl rfl fun w0 M0 => ?_;refine aw_seq ?_;refine aw_region [.p, .p, .p] ?_;refine st rfl rfl (eff_box rfl rfl) rfl ?_;refine st rfl rfl (eff_box rfl rfl) rfl ?_;refine st rfl rfl (eff_assigng rfl rfl) rfl ?_;refine st_nil ?_;refine aw_seq ?_;refine aw_region [.p, .p, .p, .p, .p, .p, .p, .p, .p, .p, .p, .p, .p, .p, .p, .p, .p, .p, .p, .p, .p, .p, .p] ?_;refine st rfl rfl (eff_fieldAddr rfl fl1070_0 rfl) rfl ?_;refine st rfl rfl (eff_load rfl ty9 rfl) rfl ?_;refine st rfl rfl (eff_seq rfl rfl rfl) rfl ?_;refine st rfl rfl (eff_moveg rfl rfl) rfl ?_;refine st_g rfl rfl rfl (gb_bool _ _) (fun h => eff_fieldAddr rfl fl1070_0 rfl) rfl ?_;refine st_g rfl rfl rfl (gb_bool _ _) (fun h => eff_load rfl ty9 (gd h rfl)) rfl ?_;refine st_g rfl rfl rfl (gb_bool _ _) (fun h => eff_fieldAddr rfl fl1080_2 rfl) rfl ?_;refine st_g rfl rfl rfl (gb_bool _ _) (fun h => eff_load rfl ty9 (gd h rfl)) rfl ?_;refine st_g rfl rfl rfl (gb_bool _ _) (fun h => eff_seq rfl (gd h rfl) (gd h rfl)) rfl ?_;refine st rfl rfl (eff_or rfl rfl rfl rfl) rfl ?_;refine st rfl rfl (eff_moveg rfl rfl) rfl ?_;refine st_g rfl rfl rfl (gb_bool _ _) (fun h => eff_fieldAddr rfl fl1070_1 rfl) rfl ?_;refine st_g rfl rfl rfl (gb_bool _ _) (fun h => eff_load rfl ty9 (gd h rfl)) rfl ?_;refine st_g rfl rfl rfl (gb_bool _ _) (fun h => eff_seq rfl (gd h rfl) rfl) rfl ?_;refine st_g rfl rfl rfl (gb_bool _ _) (fun h => eff_moveg rfl (gd h rfl)) rfl ?_;refine st_g rfl rfl rfl (gb_if _ _ _) (fun h => eff_fieldAddr rfl fl1070_1 rfl) rfl ?_;refine st_g rfl rfl rfl (gb_if _ _ _) (fun h => eff_load rfl ty9 (gd h rfl)) rfl ?_;refine st_g rfl rfl rfl (gb_if _ _ _) (fun h => eff_fieldAddr rfl fl1080_1 rfl) rfl ?_;refine st_g rfl rfl rfl (gb_if _ _ _) (fun h => eff_load rfl ty9 (gd h rfl)) rfl ?_;refine st_g rfl rfl rfl (gb_if _ _ _) (fun h => eff_seq rfl (gd h rfl) (gd h rfl)) rfl ?_;refine st_g rfl rfl rfl (gb_bool _ _) (fun h => eff_or rfl (gd h rfl) rfl (gd2 h rfl)) rfl ?_;refine st rfl rfl (eff_and rfl rfl rfl rfl) rfl ?_;refine st rfl rfl (eff_assigng rfl rfl) rfl ?_;refine st_nil ?_;refine aw_ret ?_;subst hR;exact res_c rfl (rv_g rfl)
def s1042_j1 (rec1 : Nat → Int → Int) (k3 : Nat) (x6 : Int) : Int :=
 rec1 (k3 + 1) x6
def s1042_l1 (a0 : S1063) (a2 : Int) : List S1079 → Nat → Int → Int
 | [], k3, x1 => x1
 | y4 :: t5, k3, x1 => (bif ((s1113 a0 y4) && (decide (a2 ≤ y4.Moment))) && (decide (y4.Moment < IntKind.i64.wrap (a2 + a0.Length))) then s1042_j1 (fun k_ z0_ => s1042_l1 a0 a2 t5 k_ z0_) k3 (IntKind.i64.wrap (x1 + y4.Seats)) else s1042_j1 (fun k_ z0_ => s1042_l1 a0 a2 t5 k_ z0_) k3 x1)
def s1042 (a0 : S1063) (a1 : List S1079) (a2 : Int) : Int :=
 s1042_l1 a0 a2 a1 0 0
theorem c1042 {g : List (Nat × List Value)} (a0 : S1063) (a1 : List S1079) (a2 : Int)    : Con (EG g) 42 [G.agg [G.str a0.Terminal, G.str a0.Kind, G.int a0.Length, G.int a0.Step, G.int a0.Most], G.sl 7 (List.map S1079.c a1), G.int a2] (G.int (s1042 a0 a1 a2)) := by
 generalize hR : s1042 a0 a1 a2 = R;unfold s1042 at hR;refine con_of_aw Tryz.func42 rfl rfl fun w0 M0 => ?_;refine len_sl (f := S1079.c) (l := a1) 1 rfl fun hla1 => ?_;refine aw_seq ?_;refine aw_region [.p, .p] ?_;refine st rfl rfl (eff_box rfl rfl) rfl ?_;refine st rfl rfl (eff_assigng rfl rfl) rfl ?_;refine st_nil ?_;refine aw_seq ?_;refine aw_region [.p] ?_;refine st rfl rfl (eff_assigng rfl rfl) rfl ?_;refine st_nil ?_;refine aw_seq ?_;refine aw_seq ?_;refine aw_region [.p] ?_;refine st rfl rfl (eff_assigng rfl rfl) rfl ?_;refine st_nil ?_;refine aw_block ?_;refine aw_loop_g (γ := Nat × (List S1079) × Int) (fun g => ([(1, .g (G.sl 7 (List.map S1079.c a1))), (2, .g (G.int a2)), (3, .g (G.ref [G.str a0.Terminal, G.str a0.Kind, G.int a0.Length, G.int a0.Step, G.int a0.Most])), (7, .g (G.int g.2.2)), (8, .g (G.int ((g.1 : Nat) : Int)))], [])) (fun g => a1.drop g.1 = g.2.1 ∧ s1042_l1 a0 a2 g.2.1 g.1 g.2.2 = R) (fun g => List.length g.2.1) ⟨rfl, (0, a1, 0), ⟨rfl, rfl, rfl, rfl, rfl, trivial⟩, trivial, rfl, ⟨rfl, hR⟩, trivial⟩ ?_
 ·rintro ⟨k3, t5, x1⟩ ⟨hd, hR⟩;replace hd : a1.drop k3 = t5 := hd;replace hR : s1042_l1 a0 a2 t5 k3 x1 = R := hR;refine aw_seq ?_;refine aw_seq ?_;refine aw_region [.p, .p, .p, .p] ?_;refine st rfl rfl (eff_moveg rfl rfl) rfl ?_;refine st rfl rfl (eff_moveg rfl rfl) rfl ?_;refine st rfl rfl (eff_lenM (f := S1079.c) (l := a1) rfl Tryz.underlying25 rfl) rfl ?_;refine st rfl rfl (eff_lss rfl rfl rfl) rfl ?_;refine st_nil ?_;refine len_sl (f := S1079.c) (l := a1) 1 rfl fun hlz1 => ?_;refine aw_cond _ rfl (fun h1 => ?_) (fun h1 => ?_)
  ·replace h1 : (decide (((k3 : Nat) : Int) < (List.length a1 : Int))) = true := h1;obtain ⟨y4, t5, rfl, hx1, hd⟩ := drop_cons hd (decT h1);replace h1 := decT h1;rw [s1042_l1] at hR;(try dsimp only at hR);refine aw_skip ?_;refine aw_cut_g (γ := Int) (fun g => ([(1, .g (G.sl 7 (List.map S1079.c a1))), (2, .g (G.int a2)), (3, .g (G.ref [G.str a0.Terminal, G.str a0.Kind, G.int a0.Length, G.int a0.Step, G.int a0.Most])), (7, .g (G.int g)), (8, .g (G.int ((k3 : Nat) : Int)))], [])) (fun g => s1042_j1 (fun k_ z0_ => s1042_l1 a0 a2 t5 k_ z0_) k3 g = R) ?_ ?_
   ·refine aw_block ?_;refine aw_seq ?_;refine aw_region [.p, .p, .p, .p, .w, .w] ?_;refine st rfl rfl (eff_moveg rfl rfl) rfl ?_;refine st rfl rfl (eff_moveg rfl rfl) rfl ?_;refine st rfl rfl (eff_ix (f := S1079.c) (l := a1) (a := y4) rfl Tryz.underlying25 ty1080 rfl rfl (Int.natCast_nonneg _) hx1) rfl ?_;refine st rfl rfl (eff_loadA rfl ty1080 rfl rfl rfl) rfl ?_;refine st_w rfl rfl (eff_alloc 9 rfl z1080 rfl rfl) rfl ?_;refine st_wn rfl rfl (eff_store (tv := .g (G.agg [G.int y4.Moment, G.str y4.Kind, G.str y4.Terminal, G.int y4.Seats, G.int y4.Size, G.int y4.Noise, G.str y4.Name])) rfl ty1080 rfl rfl rfl rfl rfl) ?_;refine st_nil ?_;refine aw_seq ?_;refine aw_region [.p, .r, .p, .p, .p, .r, .p, .p, .p, .p, .p, .r, .p, .p, .p, .p, .p, .p] ?_;refine st rfl rfl (eff_loadA rfl ty1070 rfl rfl rfl) rfl ?_;refine st_r rfl rfl (eff_loadOA rfl ty1080 rfl rfl rfl rfl) rfl ?_;refine st rfl rfl (eff_call rfl K1113 rfl (c1113 a0 y4) (ag_cons rfl (ag_cons rfl ag_nil))) rfl ?_;refine st rfl rfl (eff_moveg rfl rfl) rfl ?_;refine st_g rfl rfl rfl (gb_bool _ _) (fun h => eff_fieldO rfl fl1080_0 rfl) rfl ?_;refine st_gr rfl rfl rfl (gb_bool _ _) (fun h => eff_loadO rfl ty3 (gd h rfl) rfl rfl) rfl ?_;refine st_g rfl rfl rfl (gb_bool _ _) (fun h => eff_moveg rfl rfl) rfl ?_;refine st_g rfl rfl rfl (gb_bool _ _) (fun h => eff_geq rfl (gd h rfl) (gd h rfl)) rfl ?_;refine st rfl rfl (eff_and rfl rfl rfl rfl) rfl ?_;refine st rfl rfl (eff_moveg rfl rfl) rfl ?_;refine st_g rfl rfl rfl (gb_bool _ _) (fun h => eff_fieldO rfl fl1080_0 rfl) rfl ?_;refine st_gr rfl rfl rfl (gb_bool _ _) (fun h => eff_loadO rfl ty3 (gd h rfl) rfl rfl) rfl ?_;refine st_g rfl rfl rfl (gb_bool _ _) (fun h => eff_moveg rfl rfl) rfl ?_;refine st_g rfl rfl rfl (gb_bool _ _) (fun h => eff_fieldAddr rfl fl1070_2 rfl) rfl ?_;refine st_g rfl rfl rfl (gb_bool _ _) (fun h => eff_load rfl ty3 (gd h rfl)) rfl ?_;refine st_g rfl rfl rfl (gb_bool _ _) (fun h => eff_addw rfl (gd h rfl) (gd h rfl)) rfl ?_;refine st_g rfl rfl rfl (gb_bool _ _) (fun h => eff_lss rfl (gd h rfl) (gd h rfl)) rfl ?_;refine st rfl rfl (eff_and rfl rfl rfl rfl) rfl ?_;refine st_nil ?_;refine aw_cond _ rfl (fun h3 => ?_) (fun h3 => ?_)
    ·replace h3 : (((s1113 a0 y4) && (decide (a2 ≤ y4.Moment))) && (decide (y4.Moment < IntKind.i64.wrap (a2 + a0.Length)))) = true := h3;replace hR := condT hR h3;(try simp only [Bool.or_eq_true, Bool.and_eq_true, Bool.or_eq_false_iff, Bool.and_eq_false_iff, Bool.not_eq_true', Bool.not_eq_false', decide_eq_true_eq, decide_eq_false_iff_not] at h3);refine aw_region [.p, .p, .r, .p, .p] ?_;refine st rfl rfl (eff_moveg rfl rfl) rfl ?_;refine st rfl rfl (eff_fieldO rfl fl1080_3 rfl) rfl ?_;refine st_r rfl rfl (eff_loadO rfl ty3 rfl rfl rfl) rfl ?_;refine st rfl rfl (eff_addw rfl rfl rfl) rfl ?_;refine st rfl rfl (eff_assigng rfl rfl) rfl ?_;refine st_nil ?_;exact ⟨rfl, IntKind.i64.wrap (x1 + y4.Seats), ⟨rfl, rfl, rfl, rfl, rfl, trivial⟩, trivial, rfl, hR, trivial⟩
    ·replace h3 : (((s1113 a0 y4) && (decide (a2 ≤ y4.Moment))) && (decide (y4.Moment < IntKind.i64.wrap (a2 + a0.Length)))) = false := h3;replace hR := condF hR h3;(try simp only [Bool.or_eq_true, Bool.and_eq_true, Bool.or_eq_false_iff, Bool.and_eq_false_iff, Bool.not_eq_true', Bool.not_eq_false', decide_eq_true_eq, decide_eq_false_iff_not] at h3);refine aw_skip ?_;exact ⟨rfl, x1, ⟨rfl, rfl, rfl, rfl, rfl, trivial⟩, trivial, rfl, hR, trivial⟩
   ·rintro x6 hR;replace hR : s1042_j1 (fun k_ z0_ => s1042_l1 a0 a2 t5 k_ z0_) k3 x6 = R := hR;unfold s1042_j1 at hR;refine aw_region [.p, .p, .p] ?_;refine st rfl rfl (eff_moveg rfl rfl) rfl ?_;refine st rfl rfl (eff_add rfl rfl rfl (by unfold I64; omega)) rfl ?_;refine st rfl rfl (eff_assigng rfl rfl) rfl ?_;refine st_nil ?_;exact ⟨rfl, (k3 + 1, t5, x6), ⟨rfl, rfl, rfl, rfl, rfl, trivial⟩, trivial, rfl, ⟨hd, hR⟩, by simp⟩
  ·replace h1 : (decide (((k3 : Nat) : Int) < (List.length a1 : Int))) = false := h1;obtain rfl := drop_nil hd (decF h1);rw [s1042_l1] at hR;refine aw_exit ?_;refine aw_seq ?_;refine aw_region [.p, .p] ?_;refine st rfl rfl (eff_moveg rfl rfl) rfl ?_;refine st rfl rfl (eff_assigng rfl rfl) rfl ?_;refine st_nil ?_;refine aw_ret ?_;subst hR;exact res_c rfl (rv_g rfl)
def s1115_l1 (a0 : S1063) : Nat → Int → Option Int
 | 0, _ => none
 | k2 + 1, x1 => (bif decide (Int.tmod x1 a0.Step ≠ 0) then s1115_l1 a0 k2 (x1 + 1) else some x1)
def s1115 (a0 : S1063) (a1 : Int) : Option Int :=
 s1115_l1 a0 (((a0.Step - 1 - ((max 0 (IntKind.i64.wrap ((IntKind.i64.wrap (a1 - a0.Length)) + 1))) - 1) % a0.Step).toNat) + 1) (max 0 (IntKind.i64.wrap ((IntKind.i64.wrap (a1 - a0.Length)) + 1)))
theorem c1115 {g : List (Nat × List Value)} (a0 : S1063) (a1 : Int) {R : Int}  (hs : 1 ≤ a0.Step) (hs2 : a0.Step ≤ 1440) (hl : 1 ≤ a0.Length) (hl2 : a0.Length ≤ 1440) (hm : 0 ≤ a1) (hm2 : a1 ≤ 143999999) (hR : s1115 a0 a1 = some R) : Con (EG g) 115 [G.agg [G.str a0.Terminal, G.str a0.Kind, G.int a0.Length, G.int a0.Step, G.int a0.Most], G.int a1] (G.int R) := by
 unfold s1115 at hR;refine con_of_aw Tryz.func115 rfl rfl fun w0 M0 => ?_;refine aw_seq ?_;refine aw_region [.p, .p] ?_;refine st rfl rfl (eff_box rfl rfl) rfl ?_;refine st rfl rfl (eff_assigng rfl rfl) rfl ?_;refine st_nil ?_;refine aw_seq ?_;refine aw_region [.p, .p, .p, .p, .p, .p, .p] ?_;refine st rfl rfl (eff_moveg rfl rfl) rfl ?_;refine st rfl rfl (eff_fieldAddr rfl fl1070_2 rfl) rfl ?_;refine st rfl rfl (eff_load rfl ty3 rfl) rfl ?_;refine st rfl rfl (eff_subw rfl rfl rfl) rfl ?_;refine st rfl rfl (eff_addw rfl rfl rfl) rfl ?_;refine st rfl rfl (eff_max rfl rfl rfl) rfl ?_;refine st rfl rfl (eff_assigng rfl rfl) rfl ?_;refine st_nil ?_;refine aw_seq ?_;refine aw_block ?_;refine aw_loop_g (γ := Nat × Int) (fun g => ([(2, .g (G.ref [G.str a0.Terminal, G.str a0.Kind, G.int a0.Length, G.int a0.Step, G.int a0.Most])), (5, .g (G.int g.2))], [])) (fun g => (a0.Step - 1 - (g.2 - 1) % a0.Step).toNat < g.1 ∧ 0 ≤ g.2 ∧ g.2 ≤ 144999999 - (a0.Step - 1 - (g.2 - 1) % a0.Step) ∧ s1115_l1 a0 g.1 g.2 = some R) (fun g => g.1) ⟨rfl, (((a0.Step - 1 - ((max 0 (IntKind.i64.wrap ((IntKind.i64.wrap (a1 - a0.Length)) + 1))) - 1) % a0.Step).toNat) + 1, max 0 (IntKind.i64.wrap ((IntKind.i64.wrap (a1 - a0.Length)) + 1))), ⟨rfl, rfl, trivial⟩, trivial, rfl, ⟨Nat.lt_succ_self _, (by dsimp only; omega), (fw_init hs hs2 hl hl2 hm hm2), hR⟩, trivial⟩ ?_
 ·rintro ⟨k2, x1⟩ ⟨hk1, iv1_0, iv1_1, hR⟩;replace hk1 : (a0.Step - 1 - (x1 - 1) % a0.Step).toNat < k2 := hk1;replace hR : s1115_l1 a0 k2 x1 = some R := hR;replace iv1_0 : 0 ≤ x1 := iv1_0;replace iv1_1 : x1 ≤ 144999999 - (a0.Step - 1 - (x1 - 1) % a0.Step) := iv1_1;obtain ⟨k2, rfl⟩ : ∃ m, k2 = m + 1 := ⟨k2 - 1, by omega⟩;rw [s1115_l1] at hR;(try dsimp only at hR);refine aw_seq ?_;refine aw_seq ?_;have hfw := fw_step (x := x1) (s := a0.Step) (by omega) (by omega);refine aw_region [.p, .p, .p, .p, .p] ?_;refine st rfl rfl (eff_moveg rfl rfl) rfl ?_;refine st rfl rfl (eff_fieldAddr rfl fl1070_3 rfl) rfl ?_;refine st rfl rfl (eff_load rfl ty3 rfl) rfl ?_;refine st rfl rfl (eff_remt rfl rfl rfl (by omega)) rfl ?_;refine st rfl rfl (eff_neq rfl rfl rfl) rfl ?_;refine st_nil ?_;refine aw_cond _ rfl (fun h1 => ?_) (fun h1 => ?_)
  ·replace h1 : (decide (Int.tmod x1 a0.Step ≠ 0)) = true := h1;replace hR := condT hR h1;(try simp only [Bool.or_eq_true, Bool.and_eq_true, Bool.or_eq_false_iff, Bool.and_eq_false_iff, Bool.not_eq_true', Bool.not_eq_false', decide_eq_true_eq, decide_eq_false_iff_not] at h1);refine aw_skip ?_;refine aw_block ?_;refine aw_region [.p, .p, .p] ?_;refine st rfl rfl (eff_moveg rfl rfl) rfl ?_;refine st rfl rfl (eff_add rfl rfl rfl (by unfold I64; (try dsimp only); omega)) rfl ?_;refine st rfl rfl (eff_assigng rfl rfl) rfl ?_;refine st_nil ?_;exact ⟨rfl, (k2, x1 + 1), ⟨rfl, rfl, trivial⟩, trivial, rfl, ⟨(by first | omega | (dsimp only; omega) | (simp at *; omega)), (by first | omega | (dsimp only; omega) | (simp at *; omega)), (by first | omega | (dsimp only; omega) | (simp at *; omega)), hR⟩, by simp⟩
  ·replace h1 : (decide (Int.tmod x1 a0.Step ≠ 0)) = false := h1;replace hR := condF hR h1;(try simp only [Bool.or_eq_true, Bool.and_eq_true, Bool.or_eq_false_iff, Bool.and_eq_false_iff, Bool.not_eq_true', Bool.not_eq_false', decide_eq_true_eq, decide_eq_false_iff_not] at h1);refine aw_exit ?_;refine aw_seq ?_;refine aw_region [.p, .p] ?_;refine st rfl rfl (eff_moveg rfl rfl) rfl ?_;refine st rfl rfl (eff_assigng rfl rfl) rfl ?_;refine st_nil ?_;refine aw_ret ?_;obtain rfl := Option.some.inj hR;exact res_c rfl (rv_g rfl)
end Go.Sim
set_option maxRecDepth 10000
namespace Go.Sim
open Go.Proofs
def s1155 (a0 : S1195) (a1 : Int) : Option Int :=
 bindO (s1175 a0.moments a1) fun r1 => bindO (ixO a0.before r1.1) fun y2 => some y2
theorem c1155 {g : List (Nat × List Value)} (a0 : S1195) (a1 : Int) {R : Int}  (hb : a0.moments.length ≤ 1000) (hR : s1155 a0 a1 = some R) : Con (EG g) 155 [G.agg [G.sl 1 (List.map cInt a0.moments), G.sl 1 (List.map cInt a0.before)], G.int a1] (G.int R) := by
 unfold s1155 at hR;refine con_of_aw Tryz.func155 rfl rfl fun w0 M0 => ?_;refine aw_seq ?_;refine aw_region [.p, .p] ?_;refine st rfl rfl (eff_box rfl rfl) rfl ?_;refine st rfl rfl (eff_assigng rfl rfl) rfl ?_;refine st_nil ?_;refine aw_seq ?_;obtain ⟨r1, br1, hR⟩ := bindO_inv hR;refine aw_region [.p, .p, .p, .p, .p, .p, .p, .p, .p] ?_;refine st rfl rfl (eff_fieldAddr rfl fl1196_0 rfl) rfl ?_;refine st rfl rfl (eff_load rfl ty82 rfl) rfl ?_;refine st rfl rfl (eff_moveg rfl rfl) rfl ?_;refine st rfl rfl (eff_call rfl K1175 rfl (c1175 a0.moments a1 (by first | assumption | omega | (simp [copyL_len]; done) | (simp [copyL_len]; omega)) br1) (ag_cons rfl (ag_cons rfl ag_nil))) rfl ?_;refine st rfl rfl (eff_moveg rfl rfl) rfl ?_;refine st rfl rfl (eff_extract rfl rfl rfl) rfl ?_;refine st rfl rfl (eff_extract rfl rfl rfl) rfl ?_;refine st rfl rfl (eff_assigng rfl rfl) rfl ?_;refine st rfl rfl (eff_assigng rfl rfl) rfl ?_;refine st_nil ?_;refine aw_seq ?_;obtain ⟨y2, by2, hR⟩ := bindO_inv hR;refine aw_region [.p, .p, .p, .p, .p, .p] ?_;refine st rfl rfl (eff_fieldAddr rfl fl1196_1 rfl) rfl ?_;refine st rfl rfl (eff_load rfl ty82 rfl) rfl ?_;refine st rfl rfl (eff_moveg rfl rfl) rfl ?_;refine st rfl rfl (eff_ix (f := cInt) (l := a0.before) (a := y2) rfl Tryz.underlying51 ty3 rfl rfl (ixO_nn by2) (ixO_get by2)) rfl ?_;refine st rfl rfl (eff_load rfl ty3 rfl) rfl ?_;refine st rfl rfl (eff_assigng rfl rfl) rfl ?_;refine st_nil ?_;refine aw_ret ?_;obtain rfl := Option.some.inj hR;exact res_c rfl (rv_g rfl)
def s1112 (a0 : S1195) (a1 : Int) (a2 : Int) : Option Int :=
 bindO (s1155 a0 (IntKind.i64.wrap (a1 + a2))) fun r1 => bindO (s1155 a0 a1) fun r2 => some (IntKind.i64.wrap (r1 - r2))
theorem c1112 {g : List (Nat × List Value)} (a0 : S1195) (a1 : Int) (a2 : Int) {R : Int}  (hb : a0.moments.length ≤ 1000) (hR : s1112 a0 a1 a2 = some R) : Con (EG g) 112 [G.agg [G.sl 1 (List.map cInt a0.moments), G.sl 1 (List.map cInt a0.before)], G.int a1, G.int a2] (G.int R) := by
 unfold s1112 at hR;refine con_of_aw Tryz.func112 rfl rfl fun w0 M0 => ?_;refine aw_seq ?_;refine aw_region [.p, .p] ?_;refine st rfl rfl (eff_box rfl rfl) rfl ?_;refine st rfl rfl (eff_assigng rfl rfl) rfl ?_;refine st_nil ?_;refine aw_seq ?_;obtain ⟨r1, br1, hR⟩ := bindO_inv hR;obtain ⟨r2, br2, hR⟩ := bindO_inv hR;refine aw_draw [.p, .p, .p, .p, .p, .p, .p, .p, .p, .p] (by kernel_rfl) ?_;refine st rfl rfl (eff_loadA rfl ty1196 rfl rfl rfl) rfl ?_;refine st rfl rfl (eff_moveg rfl rfl) rfl ?_;refine st rfl rfl (eff_moveg rfl rfl) rfl ?_;refine st rfl rfl (eff_addw rfl rfl rfl) rfl ?_;refine st rfl rfl (eff_call rfl K1155 rfl (c1155 a0 (IntKind.i64.wrap (a1 + a2)) (by first | assumption | omega | (simp [copyL_len]; done) | (simp [copyL_len]; omega)) br1) (ag_cons rfl (ag_cons rfl ag_nil))) rfl ?_;refine st rfl rfl (eff_loadA rfl ty1196 rfl rfl rfl) rfl ?_;refine st rfl rfl (eff_moveg rfl rfl) rfl ?_;refine st rfl rfl (eff_call rfl K1155 rfl (c1155 a0 a1 (by first | assumption | omega | (simp [copyL_len]; done) | (simp [copyL_len]; omega)) br2) (ag_cons rfl (ag_cons rfl ag_nil))) rfl ?_;refine st rfl rfl (eff_subw rfl rfl rfl) rfl ?_;refine st rfl rfl (eff_assigng rfl rfl) rfl ?_;refine st_nil ?_;refine aw_ret ?_;obtain rfl := Option.some.inj hR;exact res_c rfl (rv_g rfl)
theorem srt_iff (t : Int) : ∀ {ms : List Int}, ms.Pairwise (· ≤ ·) → ∀ i (hi : i < ms.length), (ms[i] < t ↔ i < (ms.takeWhile (fun x => decide (x < t))).length)
 | [], _, i, hi => by simp at hi
 | x :: ms, h, i, hi => by
  rw [List.pairwise_cons] at h
  by_cases hx : x < t
  ·rw [List.takeWhile_cons_of_pos (by simp [hx])]
   cases i with
   | zero => simp [hx]
   | succ i =>
    have := srt_iff t h.2 i (by simpa using hi);simp only [List.getElem_cons_succ, List.length_cons]
    omega
  ·rw [List.takeWhile_cons_of_neg (by simp [hx])]
   cases i with
   | zero => simp; omega
   | succ i =>
    have := h.1 (ms[i]'(by simpa using hi)) (List.getElem_mem _);simp only [List.getElem_cons_succ, List.length_nil]
    omega
theorem s1194_eq (a b : Int) : s1194 a b = decide (a < b) := by
 have h : ∀ x, s202 x = false := fun x => by unfold s202; simp
 unfold s1194; rw [h]; simp
theorem bs_loop (t : Int) {ms : List Int} (h : ms.Pairwise (· ≤ ·)) (p : Nat) (hp : p = (ms.takeWhile (fun x => decide (x < t))).length) : ∀ (k lo hi : Nat), lo ≤ p → p ≤ hi → hi ≤ ms.length → hi - lo < k → ∃ b, s1175_l1 ms t k (lo : Int) (hi : Int) = some ((p : Int), b)
 | 0, lo, hi, _, _, _, h => by omega
 | k + 1, lo, hi, h1, h2, h3, h4 => by
  rw [s1175_l1]
  by_cases hc : lo < hi
  ·rw [decide_eq_true (by omega : (lo : Int) < (hi : Int)), cond_true]
   have e : ((lo : Int) + (hi : Int)) / 2 = (((lo + hi) / 2 : Nat) : Int) := by omega
   have hlt : (lo + hi) / 2 < ms.length := by omega
   rw [e, ixO_at hlt];simp only [bindO];rw [s1194_eq];have hi' := srt_iff t h ((lo + hi) / 2) hlt;rw [← hp] at hi'
   by_cases hm : ms[(lo + hi) / 2] < t
   ·rw [decide_eq_true hm, cond_true, show ((((lo + hi) / 2 : Nat) : Int) + 1) = (((lo + hi) / 2 + 1 : Nat) : Int) by push_cast; rfl];exact bs_loop t h p hp k _ _ (by have := hi'.1 hm; omega) h2 h3 (by omega)
   ·rw [decide_eq_false hm, cond_false];exact bs_loop t h p hp k _ _ h1 (by have : ¬ (lo + hi) / 2 < p := fun q => hm (hi'.2 q); omega) (by omega) (by omega)
  ·have e1 : lo = p := by omega
   subst e1;rw [decide_eq_false (by omega : ¬ (lo : Int) < (hi : Int)), cond_false]
   by_cases hl : lo < ms.length
   ·rw [decide_eq_true (by omega : (lo : Int) < (ms.length : Int)), cond_true, ixO_at hl];simp only [bindO, Bool.true_and]
    cases hq : (!(decide (ms[lo] = t)))
    ·exact ⟨_, rfl⟩
    ·exact ⟨_, rfl⟩
   ·rw [decide_eq_false (by omega : ¬ (lo : Int) < (ms.length : Int)), cond_false];simp only [bindO, Bool.false_and, cond_false];exact ⟨_, rfl⟩
theorem sums_get : ∀ (l : List S1079) (x : Int) (j : Nat), j ≤ l.length → (sums x l)[j]? = some (x + ((l.take j).map S1079.Seats).sum)
 | [], x, j, h => by
  have : j = 0 := by simpa using h
  subst this; simp [sums]
 | m :: l, x, 0, _ => by simp [sums]
 | m :: l, x, j + 1, h => by
  rw [sums, List.getElem?_cons_succ, sums_get l _ j (by simpa using h), List.take_succ_cons, List.map_cons, List.sum_cons, Int.add_assoc]
def U (a : S1063) (l : List S1079) (t : Int) : Int := ((l.filter (fun m => s1116 a m && decide (m.Moment < t))).map S1079.Seats).sum
theorem own_sorted (a : S1063) (l : List S1079) : (ownL a l).Pairwise (fun x y => x.Moment ≤ y.Moment) := by
 unfold ownL;refine isort_sorted (Rel := fun (x y : S1079) => x.Moment ≤ y.Moment) (fun a b c h k => Int.le_trans h k) (List.pairwise_of_forall fun y x => ⟨fun h => ?_, fun h => ?_⟩)
 ·unfold ltM at h; have := of_decide_eq_true h; omega
 ·unfold ltM at h; have := of_decide_eq_false h; omega
theorem tw_filter (t : Int) : ∀ {l : List S1079}, l.Pairwise (fun x y => x.Moment ≤ y.Moment) → l.takeWhile (fun m => decide (m.Moment < t)) = l.filter (fun m => decide (m.Moment < t))
 | [], _ => rfl
 | x :: l, h => by
  rw [List.pairwise_cons] at h
  by_cases hx : x.Moment < t
  ·rw [List.takeWhile_cons_of_pos (by simp [hx]), List.filter_cons_of_pos (by simp [hx]), tw_filter t h.2]
  ·rw [List.takeWhile_cons_of_neg (by simp [hx]), List.filter_cons_of_neg (by simp [hx])]
   symm
   rw [List.filter_eq_nil_iff];intro y hy;have := h.1 y hy
   simp; omega
theorem perm_sumI {l l' : List Int} (h : l.Perm l') : l.sum = l'.sum := by
 induction h with
 | nil => rfl
 | cons _ _ ih => simp [ih]
 | swap => simp only [List.sum_cons]; omega
 | trans _ _ i1 i2 => exact i1.trans i2
theorem until_ok (a : S1063) (l : List S1079) (t : Int) : s1155 ⟨(ownL a l).map S1079.Moment, sums 0 (ownL a l)⟩ t = some (U a l t) := by
 have hs := own_sorted a l;have hms : ((ownL a l).map S1079.Moment).Pairwise (· ≤ ·) := List.pairwise_map.2 hs
 have htw : (((ownL a l).map S1079.Moment).takeWhile (fun x => decide (x < t))).length = ((ownL a l).takeWhile (fun m => decide (m.Moment < t))).length := by
  rw [List.takeWhile_map, List.length_map]; rfl
 obtain ⟨b, hb⟩ := bs_loop t hms _ rfl (((ownL a l).map S1079.Moment).length + 1) 0 ((ownL a l).map S1079.Moment).length (Nat.zero_le _) (List.takeWhile_sublist _).length_le (Nat.le_refl _) (by omega);unfold s1155 s1175;dsimp only;rw [show ((((((ownL a l).map S1079.Moment).length : Nat) : Int) - 0).toNat) + 1 = ((ownL a l).map S1079.Moment).length + 1 by omega];rw [show (0 : Int) = ((0 : Nat) : Int) from rfl, hb];simp only [bindO];rw [htw];have hle : ((ownL a l).takeWhile (fun m => decide (m.Moment < t))).length ≤ (ownL a l).length := (List.takeWhile_sublist _).length_le;have hg := sums_get (ownL a l) 0 _ hle
 have hix : ixO (sums 0 (ownL a l)) ((((ownL a l).takeWhile (fun m => decide (m.Moment < t))).length : Nat) : Int) = some (0 + (((ownL a l).take ((ownL a l).takeWhile (fun m => decide (m.Moment < t))).length).map S1079.Seats).sum) := by
  unfold ixO; rw [decide_eq_true (by omega), cond_true]; simpa using hg
 rw [show ((0 : Nat) : Int) = 0 from rfl, hix];simp only [Int.zero_add]
 congr 1
 have htk : (ownL a l).take ((ownL a l).takeWhile (fun m => decide (m.Moment < t))).length = (ownL a l).takeWhile (fun m => decide (m.Moment < t)) := by
  conv => lhs; arg 2; rw [← List.takeWhile_append_dropWhile (p := fun m => decide (m.Moment < t)) (l := ownL a l)]
  rw [List.take_left]
 rw [htk, tw_filter t hs];unfold U
 have hp : ((ownL a l).filter (fun m => decide (m.Moment < t))).Perm (l.filter (fun m => s1116 a m && decide (m.Moment < t))) := by
  have h1 := (isort_perm ltM (l.filter fun m => s1116 a m)).filter (fun m => decide (m.Moment < t));rw [List.filter_filter] at h1
  have e : (fun m : S1079 => decide (m.Moment < t) && s1116 a m) = fun m => s1116 a m && decide (m.Moment < t) := by funext m; exact Bool.and_comm _ _
  rw [e] at h1;exact h1
 exact perm_sumI (hp.map S1079.Seats)
theorem U_rng (a : S1063) (t : Int) : ∀ {l : List S1079}, (∀ m ∈ l, 0 ≤ m.Seats ∧ m.Seats ≤ 999) → 0 ≤ U a l t ∧ U a l t ≤ 999 * (l.length : Int)
 | [], _ => by simp [U]
 | m :: l, h => by
  have ih := U_rng a t (l := l) fun x hx => h x (List.mem_cons_of_mem _ hx);have hm := h m List.mem_cons_self;unfold U at *;rw [List.filter_cons];rw [List.length_cons]
  split
  ·rw [List.map_cons, List.sum_cons]; omega
  ·omega
def W (a : S1063) (l : List S1079) (b : Int) : Int := ((l.filter (fun m => (s1113 a m && decide (b ≤ m.Moment)) && decide (m.Moment < b + a.Length))).map S1079.Seats).sum
theorem W_U (a : S1063) (b : Int) (hl : 1 ≤ a.Length) : ∀ (l : List S1079), U a l (b + a.Length) - U a l b = W a l b
 | [] => by simp [U, W]
 | m :: l => by
  have ih := W_U a b hl l;unfold U W at *;have e : s1116 a m = s1113 a m := rfl;rw [List.filter_cons, List.filter_cons, List.filter_cons, e]
  cases hc : s1113 a m
  ·simp only [Bool.false_and, Bool.false_eq_true, if_false]; exact ih
  ·by_cases h1 : m.Moment < b + a.Length <;> by_cases h2 : m.Moment < b
   ·have h3 : ¬ b ≤ m.Moment := by omega
    simp only [h1, h2, h3, decide_true, decide_false, Bool.true_and, Bool.and_true, Bool.false_and, Bool.and_false, if_true, Bool.false_eq_true, if_false, List.map_cons, List.sum_cons]; omega
   ·have h3 : b ≤ m.Moment := by omega
    simp only [h1, h2, h3, decide_true, decide_false, Bool.true_and, Bool.and_true, Bool.false_and, Bool.and_false, if_true, Bool.false_eq_true, if_false, List.map_cons, List.sum_cons]; omega
   ·omega
   ·simp only [h1, h2, decide_true, decide_false, Bool.true_and, Bool.and_true, Bool.false_and, Bool.and_false, if_true, Bool.false_eq_true, if_false, List.map_cons, List.sum_cons]; omega
theorem s1042_run (a : S1063) (b : Int) (hb : IntKind.i64.wrap (b + a.Length) = b + a.Length) : ∀ (l : List S1079) (k : Nat) (x : Int), (∀ m ∈ l, 0 ≤ m.Seats ∧ m.Seats ≤ 999) → 0 ≤ x → x + 999 * (l.length : Int) ≤ 10000000 → s1042_l1 a b l k x = x + W a l b
 | [], k, x, _, _, _ => by simp [s1042_l1, W]
 | m :: l, k, x, h, h0, h1 => by
  have hm := h m List.mem_cons_self;rw [List.length_cons] at h1;rw [s1042_l1, hb];unfold s1042_j1 W;rw [List.filter_cons]
  cases hc : (s1113 a m && decide (b ≤ m.Moment)) && decide (m.Moment < b + a.Length)
  ·rw [cond_false];simp only [Bool.false_eq_true, if_false];exact s1042_run a b hb l _ _ (fun y hy => h y (List.mem_cons_of_mem _ hy)) h0 (by omega)
  ·rw [cond_true, wrap_i64 (by unfold I64; omega)];simp only [if_true, List.map_cons, List.sum_cons];rw [s1042_run a b hb l _ _ (fun y hy => h y (List.mem_cons_of_mem _ hy)) (by omega) (by omega), Int.add_assoc]; rfl
theorem window_ok {a : S1063} {l : List S1079} {b : Int} (h : SeatOk a) (hm : ∀ m ∈ l, 0 ≤ m.Seats ∧ m.Seats ≤ 999) (hl : l.length ≤ 12) (h0 : 0 ≤ b) (h1 : b ≤ 150000000) :
  s1112 ⟨(ownL a l).map S1079.Moment, sums 0 (ownL a l)⟩ b a.Length = some (s1042 a l b) ∧ s1042 a l b = W a l b ∧ 0 ≤ s1042 a l b ∧ s1042 a l b ≤ 11988 := by
 have h2 := h.l0; have h3 := h.l1;have hw : IntKind.i64.wrap (b + a.Length) = b + a.Length := wrap_i64 (by unfold I64; omega);have hr := s1042_run a b hw l 0 0 hm (by decide) (by omega);have hW := W_U a b h2 l;have u1 := U_rng a (b + a.Length) hm;have u2 := U_rng a b hm
 have hWr : 0 ≤ W a l b ∧ W a l b ≤ 11988 := by
  have : ∀ {l : List S1079}, (∀ m ∈ l, 0 ≤ m.Seats ∧ m.Seats ≤ 999) → 0 ≤ W a l b := by
   intro l hm;unfold W
   induction l with
   | nil => simp
   | cons y l ih =>
    have i1 := ih fun x hx => hm x (List.mem_cons_of_mem _ hx);have i2 := hm y List.mem_cons_self;rw [List.filter_cons]; split
    ·rw [List.map_cons, List.sum_cons]; omega
    ·exact i1
  have := this hm
  omega
 have hs : s1042 a l b = W a l b := by unfold s1042; rw [hr, Int.zero_add]
 refine ⟨?_, hs, by rw [hs]; exact hWr.1, by rw [hs]; exact hWr.2⟩;unfold s1112;rw [hw, until_ok, until_ok];simp only [bindO];rw [wrap_i64 (by unfold I64; omega), hW, hs]
section
variable {E : Env} {w0 : World} {M0 : Nat → Prop}
def Seq (E : Env) (g : FuncId) (caps : List G) {α : Type} (enc : α → Value) (xs : List α) : Prop :=
 ∀ (w : World) (M : Nat → Prop) (cs : List Value) (l : Nat) (J Jx : List α → World → Prop), (∀ b, M b → b < w.heap.size) → GlOk E w M → FitsT w M caps cs →
  (∀ pre W W', J pre W → Grow W W' → J pre W') → (∀ pre W W', Jx pre W → Grow W W' → Jx pre W') →
  (∀ pre x post W1, xs = pre ++ x :: post → BelowX M w W1 → J pre W1 → YieldAt Fence.wide 0 E.P l #[enc x] W1 fun e W' =>
   BelowX M W1 W' ∧ ((e = .returned (.bool true) ∧ J (pre ++ [x]) W') ∨ (e = .returned (.bool false) ∧ Jx (pre ++ [x]) W'))) →
  J [] w → CallsIn Fence.wide 0 E.P g (#[.func (.yield l) #[] #[]] ++ cs.toArray) w fun e W' => (∃ v, e = .returned v) ∧ (J xs W' ∨ ∃ pre, pre <+: xs ∧ Jx pre W')
def Env.turn (E : Env) (lp : Nat) (mem : Mem) (x : Nat → Option Own) : Env := ⟨E.P, E.gl, E.orders, mem.map fun p => (p.1, x p.1), some lp, false⟩
theorem Con.turn {f : FuncId} {args : List G} {r : G} {lp : Nat} {mem : Mem} {x : Nat → Option Own} (h : Con E f args r) : Con (E.turn lp mem x) f args r := h
theorem ConB.turn {f : FuncId} {args : List TV} {r : G} {m m' : Mem} {lp : Nat} {mem : Mem} {x : Nat → Option Own} (h : ConB E f args m r m') : ConB (E.turn lp mem x) f args m r m' := h
theorem mrel_turn {mem : Mem} {ρ : Rho} {W : World} {Mo : Nat → Prop} {x : Nat → Option Own} (lp : Nat) (hMo : ∀ b, Mo b → b < W.heap.size) (hgl : GlOk E W Mo)
  (hdom : ∀ id y, ρ id = some y → ∃ blk, lookO mem id = some blk) (hx : ∀ id blk, lookO mem id = some blk → ρ id = some (x id)) (hsub : ∀ id ow, ρ id = some (some ow) → Mo ow.b)
  (hinj : ∀ id id' ow ow', ρ id = some (some ow) → ρ id' = some (some ow') → ow.b = ow'.b → id = id') (hblk : ∀ id blk, lookO mem id = some blk → BRel W Mo ρ id blk) :
  owned (fun b => Mo b ∧ ¬ ∃ id ow, ρ id = some (some ow) ∧ ow.b = b) ρ = Mo ∧ (∀ b, (E.turn lp mem x).lent b ↔ ∃ id ow, ρ id = some (some ow) ∧ ow.b = b) ∧
  MRel (E.turn lp mem x) W (fun b => Mo b ∧ ¬ ∃ id ow, ρ id = some (some ow) ∧ ow.b = b) ρ mem W := by
 have hown : owned (fun b => Mo b ∧ ¬ ∃ id ow, ρ id = some (some ow) ∧ ow.b = b) ρ = Mo := by
  funext b
  apply propext
  constructor
  ·rintro (h | ⟨id, o, h, rfl⟩)
   ·exact h.1
   ·exact hsub _ _ h
  ·intro h
   by_cases hb : ∃ id ow, ρ id = some (some ow) ∧ ow.b = b
   ·obtain ⟨id, ow, h1, h2⟩ := hb; exact .inr ⟨id, ow, h1, h2⟩
   ·exact .inl ⟨h, hb⟩
 have hback : ∀ id y, ρ id = some y → lookO (E.turn lp mem x).bow id = some y := fun id y h => by
  obtain ⟨b, hb⟩ := hdom id y h;refine (lookO_mapk x).2 ⟨⟨b, hb⟩, ?_⟩;have := hx id b hb;rw [h] at this; cases this; rfl
 have hkeep : ∀ id y, lookO (E.turn lp mem x).bow id = some y → ρ id = some y := fun id y h => by
  obtain ⟨⟨b, h1⟩, rfl⟩ := (lookO_mapk x).1 h;exact hx id b h1
 have hlent : ∀ b, (E.turn lp mem x).lent b ↔ ∃ id ow, ρ id = some (some ow) ∧ ow.b = b := fun b =>
  ⟨fun ⟨id, ow, h1, h2⟩ => ⟨id, ow, hkeep id _ h1, h2⟩, fun ⟨id, ow, h1, h2⟩ => ⟨id, ow, hback id _ h1, h2⟩⟩
 refine ⟨hown, hlent, BelowX.refl _ W, fun b h => hMo b h.1, by rw [hown]; exact hgl, hdom, fun id ow ho => ⟨.inr ((hlent _).2 ⟨id, ow, ho, rfl⟩), hMo _ (hsub _ _ ho)⟩, hinj, hkeep, ?_, by rw [hown]; exact hblk⟩;intro b hb hM;exact hM.2 ((hlent b).1 hb)
def sameIds (m m' : Mem) : Prop := m'.map (·.1) = m.map (·.1)
def goodM (m : Mem) : Bool := m.all fun q => q.2.live && q.2.ground
def liveM (m : Mem) : Bool := m.all fun q => q.2.live
theorem look_ids {m : Mem} {id : Nat} : (∃ b, lookO m id = some b) ↔ id ∈ m.map (·.1) := by
 induction m with
 | nil => simp [lookO]
 | cons q m ih =>
  obtain ⟨k, v⟩ := q;simp only [lookO, List.map_cons, List.mem_cons]
  rcases Bool.eq_false_or_eq_true (Nat.beq k id) with hk | hk
  ·rw [hk]; have := Nat.eq_of_beq_eq_true hk; simp [this]
  ·rw [hk]
   have : id ≠ k := fun e => by subst e; rw [Nat.beq_refl] at hk; cases hk
   simp only [cond_false, ih, this, false_or]
def RoundQ {α γ : Type} (m : γ → Mem) (I : List α → γ → Prop) (Px : Code → List α → Mem → Prop) (m0 : Mem) (pre : List α) : Exit → ASt → Prop
 | .normal, s => ∃ g, I pre g ∧ MemL s (m g)
 | .ret, s => ∃ mx, Px .ret pre mx ∧ sameIds m0 mx ∧ goodM mx = true ∧ MemL s mx
 | .exit id, s => ∃ mx, Px (.exit id) pre mx ∧ sameIds m0 mx ∧ goodM mx = true ∧ MemL s mx
 | _, _ => False
def Jm (ρ : Rho) (Mo : Nat → Prop) (lp D : Nat) (w : World) (st : Obj) (m : Mem) (W : World) : Prop :=
 BelowX (fun b => b = lp ∨ ∃ id ow, ρ id = some (some ow) ∧ ow.b = b) w W ∧ (∀ id blk, lookO m id = some blk → BRel W Mo ρ id blk) ∧ W.heap[lp]? = some st ∧ W.heap[D]? = some (.deferred (some []))
theorem Jm.grow {ρ : Rho} {Mo : Nat → Prop} {lp D : Nat} {w W W' : World} {st : Obj} {m : Mem} (hsub : ∀ id ow, ρ id = some (some ow) → ow.b < w.heap.size) (h : Jm ρ Mo lp D w st m W) (hg : Grow W W') : Jm ρ Mo lp D w st m W' := by
 obtain ⟨h1, h2, h3, h4⟩ := h;refine ⟨h1.trans (BelowX.of_grow hg), fun id blk hb => ?_, (hg.block lp (Array.getElem?_eq_some_iff.1 h3).1).trans h3, (hg.block D (Array.getElem?_eq_some_iff.1 h4).1).trans h4⟩;exact (h2 id blk hb).mono none (by simp) (noref_none _) (fun ow ho => hg.block _ (Nat.lt_of_lt_of_le (hsub id ow ho) h1.size)) hg.hh (fun _ _ h => h) (fun _ _ _ => rfl)
end
section
variable {E : Env} {w0 : World} {M0 : Nat → Prop}
theorem put_size (w : World) (b : Nat) (o : Obj) : (w.putObj b o).heap.size = w.heap.size := by simp [World.putObj]
theorem put_belowX (w : World) (b : Nat) (o : Obj) {L : Nat → Prop} (h : L b) : BelowX L w (w.putObj b o) :=
 ⟨rfl, rfl, rfl, Nat.le_of_eq (put_size w b o).symm, fun k _ hl => World.putObj_heap_other fun e => hl (by rw [e]; exact h)⟩
theorem aw_rangeFunc {α γ : Type} {gop : Operand} {p : Tmp} {assign body : Code} {Q : Exit → ASt → Prop} {n : Nat} {t : Nat → TV} {gf : FuncId} {caps : List G} {enc : α → Value} {xs : List α}
  (m : γ → Mem) (I : List α → γ → Prop) (g0 : γ) (S1 : γ → α → ASt) (Px : Code → List α → Mem → Prop)
  (hmk : E.mks = true) (hrn : E.rnd = none) (hk : Known E.P gf) (hp : p < n)
  (hg : ASt.eval E ⟨n, t, m g0⟩ gop = .g (.fn (.func gf) [] caps)) (hseq : Seq E gf caps enc xs)
  (hg0 : I [] g0) (hids : ∀ g, sameIds (m g0) (m g)) (hgood : ∀ g, goodM (m g) = true)
  (hassign : ∀ pre x post g, xs = pre ++ x :: post → I pre g → ∀ lp w1 M1 x1, AWp (E.turn lp (m g) x1) w1 M1 assign (fun e s' => e = .normal ∧ s' = S1 g x) ⟨n, upd p (.g (.lit (enc x))) t, m g⟩)
  (hlive1 : ∀ g x, liveM (S1 g x).mem = true)
  (hbody : ∀ pre x post g, xs = pre ++ x :: post → I pre g → ∀ lp w1 M1 x1, AWp (E.turn lp (S1 g x).mem x1) w1 M1 body (RoundQ m I Px (m g0) (pre ++ [x])) (S1 g x))
  (hdone : ∀ g, I xs g → Q .normal ⟨n, t, m g⟩)
  (hstop : ∀ c pre mx, pre <+: xs → Px c pre mx → AWp E w0 M0 c Q ⟨n, t, mx⟩) : AWp E w0 M0 (.rangeFunc gop #[p] assign body) Q ⟨n, t, m g0⟩ := by
 intro a w ha;obtain ⟨ρ, hm, hmks, ht⟩ := ha.ex
 have hF : E.F = Fence.wide := by unfold Env.F; rw [hrn]; rfl
 obtain ⟨fs, cs, hge, hfs, hcs⟩ : (G.fn (.func gf) [] caps).p w (owned M0 ρ) (a.eval gop) := by
  have := eval_rel hm ht gop;rw [hg] at this;exact this
 obtain rfl : fs = [] := by cases fs with
  | nil => rfl
  | cons => exact hfs.elim
 obtain ⟨fng, k1, k2, k3⟩ := hk;refine wpIn_rangeFunc ?_;intro fn _;obtain ⟨rec, hrec⟩ : ∃ rec : LoopState → Option Code → Loop, rec = fun st pe => { state := st, pending := pe, fn, tmps := a.tmps, params := #[p], assign, body, defers := w.heap.size } := ⟨_, rfl⟩;obtain ⟨w2, hw2⟩ : ∃ w2, (w.alloc (.deferred (some []))).alloc (.loop (rec .ready none)) = w2 := ⟨_, rfl⟩
 have hgr : Grow w w2 := by rw [← hw2]; exact (Grow.alloc w _).trans (Grow.alloc _ _)
 have hsz : w2.heap.size = w.heap.size + 2 := by rw [← hw2]; simp
 have hL : w2.heap[w.heap.size + 1]? = some (.loop (rec .ready none)) := by
  rw [← hw2]; have := World.alloc_heap_new (w.alloc (.deferred (some []))) (.loop (rec .ready none)); rwa [World.size_alloc] at this
 have hD : w2.heap[w.heap.size]? = some (.deferred (some [])) := by
  rw [← hw2]; exact (RowKit.Below.heap_alloc _ _ _ (by simp)).trans (World.alloc_heap_new w _)
 have hρlt : ∀ id ow, ρ id = some (some ow) → ow.b < w.heap.size := fun id ow h => (hm.fresh id ow h).2
 have hrun : (Instr.enterLoop fn a.tmps #[p] assign body E.F.round).run E.P w = .ok (w.heap.size + 1, [{ target := .collected w.heap.size, args := #[] }]) w2 := by
  rw [← hw2, hrec, hF]; exact run_enterLoop_outer _ _ _ _ _
 clear hw2;generalize hDD : w.heap.size = D at *;generalize hlpp : D + 1 = lp at *
 let Mo : Nat → Prop := fun b => owned M0 ρ b ∨ b = D ∨ b = lp
 let L : Nat → Prop := fun b => b = lp ∨ ∃ id ow, ρ id = some (some ow) ∧ ow.b = b
 have hLMo : ∀ b, L b → Mo b := by
  rintro b (h | ⟨id, ow, h, rfl⟩)
  ·exact .inr (.inr h)
  ·exact .inl (.inr ⟨id, ow, h, rfl⟩)
 have hsubMo : ∀ id ow, ρ id = some (some ow) → Mo ow.b := fun id ow h => .inl (.inr ⟨id, ow, h, rfl⟩)
 have hMow : ∀ b, Mo b → b < w2.heap.size := by
  rintro b (h | h | h)
  ·have := hm.lt b h; omega
  ·omega
  ·omega
 have hMoSub : ∀ b, b < w.heap.size → Mo b → owned M0 ρ b := by
  rintro b hb (h | h | h)
  ·exact h
  ·omega
  ·omega
 have hgl2 : GlOk E w2 Mo := fun g vs hgv => by
  obtain ⟨⟨g1, g2⟩, g3⟩ := hm.glob g vs hgv;refine ⟨⟨?_, by omega⟩, g3.mono hgr.hh hMoSub g1⟩;rintro (h | h | h)
  ·exact g1 h
  ·omega
  ·omega
 have hdom : ∀ gg id y, ρ id = some y → ∃ blk, lookO (m gg) id = some blk := fun gg id y h => by
  rw [look_ids, hids gg, ← look_ids]; exact hm.dom id y h
 let x0 : Nat → Option Own := fun id => (ρ id).getD none
 have hx00 : ∀ id blk, lookO (m g0) id = some blk → ρ id = some (x0 id) := fun id blk h => by
  have h1 := List.all_eq_true.1 (hgood g0) _ (lookO_mem _ h);simp only [Bool.and_eq_true] at h1;obtain ⟨y, hy⟩ := (hm.blk id blk h).has h1.1;simp only [x0, hy, Option.getD_some]
 have hx0 : ∀ mx, sameIds (m g0) mx → ∀ id blk, lookO mx id = some blk → ρ id = some (x0 id) := fun mx hs id blk h => by
  obtain ⟨b0, hb0⟩ : ∃ b0, lookO (m g0) id = some b0 := by rw [look_ids, ← hs, ← look_ids]; exact ⟨_, h⟩
  exact hx00 id b0 hb0
 have hhW : ∀ W, BelowX L w2 W → ∀ b, b < w2.heap.size → ¬ Mo b → W.heap[b]? = w2.heap[b]? := fun W h b hb hno => h.block b hb fun hl => hno (hLMo b hl)
 have htW : ∀ W, BelowX L w2 W → ∀ i, TRel W Mo ρ (t i) (a.tmps.getD i undef) := fun W h i =>
  ((ht i).mono none (by cases ASt.get ⟨n, t, m g0⟩ i <;> rfl) hgr.hh hMoSub (fun _ _ _ => rfl)).mono none (by cases ASt.get ⟨n, t, m g0⟩ i <;> rfl) (hhW W h) (fun _ _ h => h) (fun _ _ _ => rfl)
 -- behind the loop
 have back : ∀ mx W' st pe, sameIds (m g0) mx → Jm ρ Mo lp D w2 (.loop (rec st pe)) mx W' →
   ARel E w0 M0 ⟨n, t, mx⟩ { a with defers := { target := .collected D, args := #[] } :: a.defers } (W'.putObj lp (.loop { rec st pe with state := .exhausted })) := by
  rintro mx W' st pe hs ⟨j1, j2, j3, j4⟩;have hfull : BelowX L w2 (W'.putObj lp (.loop { rec st pe with state := .exhausted })) := j1.trans (put_belowX _ _ _ (.inl rfl))
  have hhw : ∀ b, b < w.heap.size → ¬ owned M0 ρ b → (W'.putObj lp (.loop { rec st pe with state := .exhausted })).heap[b]? = w.heap[b]? := fun b hb hno =>
   (hhW _ hfull b (by omega) fun h => hno (hMoSub b hb h)).trans (hgr.block b hb)
  have hsize : w.heap.size ≤ (W'.putObj lp (.loop { rec st pe with state := .exhausted })).heap.size := by have := hfull.size; omega
  refine ⟨(fun h => by rw [hmk] at h; cases h), ha.size, ρ, ⟨?_, hm.m0, ?_, ?_, ?_, hm.inj, hm.keep, hm.lentM, ?_⟩, ?_, fun i => ?_⟩
  ·refine ⟨hfull.os.trans (hgr.os.trans hm.below.os), hfull.tape.trans (hgr.tape.trans hm.below.tape), hfull.output.trans (hgr.output.trans hm.below.output), Nat.le_trans hm.below.size hsize, fun k hk' hl => ?_⟩;have hkw := Nat.lt_of_lt_of_le hk' hm.below.size;refine (hfull.block k (by omega) ?_).trans ((hgr.block k hkw).trans (hm.below.block k hk' hl));rintro (h | ⟨id, ow, h, rfl⟩)
   ·omega
   ·rcases (hm.fresh id ow h).1 with g | g
    ·omega
    ·exact hl g
  ·exact hm.glob.grow hsize hhw
  ·intro id y h;rw [look_ids, hs, ← look_ids]; exact hm.dom id y h
  ·exact fun id ow h => ⟨(hm.fresh id ow h).1, Nat.lt_of_lt_of_le (hm.fresh id ow h).2 hsize⟩
  ·intro id blk hb;refine (j2 id blk hb).mono none (by simp) (noref_none _) (fun ow ho => World.putObj_heap_other ?_) (fun b _ hno => World.putObj_heap_other ?_) (fun b _ h => .inl h) (fun _ _ _ => rfl)
   ·have := hρlt id ow ho; omega
   ·intro e; exact hno (.inr (.inr e))
  ·refine ⟨List.nodup_cons.2 ⟨fun hd => ?_, hmks.1⟩, fun d hd => ?_⟩
   ·obtain ⟨D', q1, q2, q3⟩ := hmks.2 _ hd;have hq := (Array.getElem?_eq_some_iff.1 q3.2).1;simp only [Deferred.mk.injEq, Target.collected.injEq, and_true] at q1
    omega
   rcases List.mem_cons.1 hd with rfl | hd
   ·refine ⟨D, rfl, by have := hm.below.size; omega, ?_, (World.putObj_heap_other (by omega)).trans j4⟩;rintro (h | ⟨id, ow, h, e⟩)
    ·have := hm.m0 D h; have := hm.below.size; omega
    ·have := hρlt id ow h; omega
   ·obtain ⟨D', q1, q2, q3⟩ := hmks.2 d hd;exact ⟨D', q1, q2, (G.mark D').mono q3 hhw (fun _ _ h => h)⟩
  ·exact (ht i).mono none (by cases ASt.get ⟨n, t, m g0⟩ i <;> rfl) hhw (fun _ _ h => h) (fun _ _ _ => rfl)
 refine ⟨lp, [{ target := .collected D, args := #[] }], w2, { target := .fn (.func gf) cs.toArray, args := #[.func (.yield lp) #[] #[]] }, w2, gf,
  #[.func (.yield lp) #[] #[]] ++ cs.toArray, w2, hrun, ?_, fun _ _ => trivial, ?_, env_room, ?_⟩
 ·simp only [resolve, hge]
  simp [go_sem]
 ·simp [invoke, go_sem, run_callFunc k1 k2 k3]
 rw [hF]
 refine (hseq w2 Mo cs lp (fun pre W => ∃ gg, I pre gg ∧ Jm ρ Mo lp D w2 (.loop (rec .ready none)) (m gg) W)
  (fun pre W => ∃ c mx, Px c pre mx ∧ sameIds (m g0) mx ∧ Jm ρ Mo lp D w2 (.loop (rec .done (some c))) mx W) hMow hgl2 (hcs.mono hgr.hh hMoSub)
  (fun pre W W' ⟨gg, hI, h⟩ hg' => ⟨gg, hI, h.grow (fun id ow ho => by have := hρlt id ow ho; omega) hg'⟩) (fun pre W W' ⟨c, mx, h1, h2, h3⟩ hg' => ⟨c, mx, h1, h2, h3.grow (fun id ow ho => by have := hρlt id ow ho; omega) hg'⟩) ?_ ?_).mono ?_
 ·-- ONE ROUND
  rintro pre x post W1 hxs _ ⟨gg, hI, j1, j2, j3, j4⟩;have hlpW1 : lp < W1.heap.size := (Array.getElem?_eq_some_iff.1 j3).1;have hy := run_yield (P := E.P) (args := #[enc x]) j3 (by rw [hrec]; rfl);refine ⟨_, _, _, _, hy, roundIn_of_wpIn trivial ?_⟩;clear hy
  have hfold : (((rec .ready none).params.zip #[enc x]).foldl (fun tmps (t, a) => tmps.setIfInBounds t a) (rec .ready none).tmps) = (a.put (some p) (enc x)).tmps := by rw [hrec]; simp [Act.put]
  have has : (rec .ready none).assign = assign := by rw [hrec]
  have hbo : (rec .ready none).body = body := by rw [hrec]
  rw [hfold, has, hbo];obtain ⟨o1, l1, mr1⟩ := mrel_turn (E := E) (x := x0) lp (mem := m gg) (W := W1) (Mo := Mo) (fun b h => Nat.lt_of_lt_of_le (hMow b h) j1.size) (hgl2.grow j1.size (hhW W1 j1)) (hdom gg) (hx0 _ (hids gg)) hsubMo hm.inj j2;generalize hM1 : (fun b => Mo b ∧ ¬ ∃ id ow, ρ id = some (some ow) ∧ ow.b = b) = M1 at *
  have ha1 : ARel (E.turn lp (m gg) x0) W1 M1 ⟨n, upd p (.g (.lit (enc x))) t, m gg⟩ { tmps := (a.put (some p) (enc x)).tmps, defers := [] } W1 := by
   refine ⟨fun _ => rfl, by rw [size_put]; exact ha.size, ρ, mr1, Marks.nil, fun i => ?_⟩;rw [o1];show TRel W1 Mo ρ (upd p (.g (.lit (enc x))) t i) ((a.put (some p) (enc x)).tmps.getD i undef);rw [getD_put a (some p) (enc x) (fun d h => by cases h; rw [ha.size]; exact hp), upd_eq]
   by_cases hpi : p = i
   ·rw [if_pos hpi, if_pos (by rw [hpi])]; exact rfl
   ·rw [if_neg hpi, if_neg (fun h => hpi (by cases h; rfl))]; exact htW W1 j1 i
  refine wpIn_mono (hassign pre x post gg hxs hI lp W1 M1 x0 _ W1 ha1) ?_;rintro e a1 W2 ⟨s', ha2, rfl, rfl⟩;obtain ⟨ρ2, hm2, _, ht2⟩ := ha2.ex
  have hnl : ¬ (E.turn lp (m gg) x0).lent lp := fun h => by obtain ⟨id, ow, h1, h2⟩ := (l1 _).1 h; have := hρlt id ow h1; omega
  have hnD : ¬ (E.turn lp (m gg) x0).lent D := fun h => by obtain ⟨id, ow, h1, h2⟩ := (l1 _).1 h; have := hρlt id ow h1; omega
  have e3 : W2.heap[lp]? = some (.loop (rec .ready none)) := (hm2.below.block lp hlpW1 hnl).trans j3;have e4 : W2.heap[D]? = some (.deferred (some [])) := (hm2.below.block D (by omega) hnD).trans j4;refine ⟨_, run_beginRound e3 (by rw [hrec]), ?_⟩;have hlpW2 : lp < W2.heap.size := Nat.lt_of_lt_of_le hlpW1 hm2.below.size;have hρ2 : ∀ id y, ρ id = some y → ρ2 id = some y := fun id y h => hm2.keep id y ((lookO_mapk x0).2 ⟨hdom gg id y h, by simp only [x0, h, Option.getD_some]⟩)
  have hne2 : ∀ id ow, ρ2 id = some (some ow) → ow.b ≠ lp := fun id ow h e => by
   rcases (hm2.fresh id ow h).1 with g | g
   ·omega
   ·exact hnl (e ▸ g)
  have hne2D : ∀ id ow, ρ2 id = some (some ow) → ow.b ≠ D := fun id ow h e => by
   rcases (hm2.fresh id ow h).1 with g | g
   ·omega
   ·exact hnD (e ▸ g)
  have hMM : ∀ b, Mo b → owned M1 ρ2 b := fun b h => by
   rw [← o1] at h
   rcases h with h | ⟨id, ow, h, rfl⟩
   ·exact .inl h
   ·exact .inr ⟨id, ow, hρ2 id _ h, rfl⟩
  have hh2 : ∀ b, b < W2.heap.size → ¬ owned M1 ρ2 b → (W2.putObj lp (.loop { rec .ready none with state := .busy })).heap[b]? = W2.heap[b]? := fun b _ hno =>
   World.putObj_heap_other fun e => hno (by rw [e]; exact hMM lp (.inr (.inr rfl)))
  have hx2 : ∀ id blk, lookO (S1 gg x).mem id = some blk → ρ2 id = some ((ρ2 id).getD none) := fun id blk h => by
   obtain ⟨y, hy⟩ := (hm2.blk id blk h).has (List.all_eq_true.1 (hlive1 gg x) _ (lookO_mem _ h));rw [hy]; rfl
  obtain ⟨o2, l2, mr2⟩ := mrel_turn (E := E) (x := fun id => (ρ2 id).getD none) lp (mem := (S1 gg x).mem) (W := W2.putObj lp (.loop { rec .ready none with state := .busy })) (Mo := owned M1 ρ2) (fun b h => by rw [put_size]; exact hm2.lt b h)
   (GlOk.grow (E := E) hm2.glob (by rw [put_size]; exact Nat.le_refl _) hh2) hm2.dom hx2 (fun id ow h => .inr ⟨id, ow, h, rfl⟩) hm2.inj
   (fun id blk hb => (hm2.blk id blk hb).mono none (by simp) (noref_none _) (fun ow ho => World.putObj_heap_other (hne2 id ow ho)) hh2 (fun _ _ h => h) (fun _ _ _ => rfl))
  generalize hM2 : (fun b => owned M1 ρ2 b ∧ ¬ ∃ id ow, ρ2 id = some (some ow) ∧ ow.b = b) = M2 at *;have had : a1.defers = [] := ha2.defers rfl
  have ha3 : ARel (E.turn lp (S1 gg x).mem fun id => (ρ2 id).getD none) (W2.putObj lp (.loop { rec .ready none with state := .busy })) M2 (S1 gg x) a1 (W2.putObj lp (.loop { rec .ready none with state := .busy })) := by
   refine ⟨fun _ => had, ha2.size, ρ2, mr2, by rw [had]; exact Marks.nil, fun i => ?_⟩;rw [o2];exact (ht2 i).mono none (by cases (S1 gg x).get i <;> rfl) hh2 (fun _ _ h => h) (fun _ _ _ => rfl)
  refine wpIn_mono (hbody pre x post gg hxs hI lp _ M2 _ a1 _ ha3) ?_;rintro e2 a2 W3 ⟨s3, ha4, hq⟩;obtain ⟨ρ3, hm3, _, _⟩ := ha4.ex
  have hnl2 : ¬ (E.turn lp (S1 gg x).mem fun id => (ρ2 id).getD none).lent lp := fun h => by obtain ⟨id, ow, h1, h2⟩ := (l2 _).1 h; exact hne2 id ow h1 h2
  have hnD2 : ¬ (E.turn lp (S1 gg x).mem fun id => (ρ2 id).getD none).lent D := fun h => by obtain ⟨id, ow, h1, h2⟩ := (l2 _).1 h; exact hne2D id ow h1 h2
  have f3 : W3.heap[lp]? = some (.loop { rec .ready none with state := .busy }) := (hm3.below.block lp (by rw [put_size]; exact hlpW2) hnl2).trans (World.putObj_heap_same hlpW2);have f4 : W3.heap[D]? = some (.deferred (some [])) := (hm3.below.block D (by rw [put_size]; omega) hnD2).trans ((World.putObj_heap_other (by omega)).trans e4)
  have b13 : BelowX L W1 W3 := by
   have hb := hm3.below;have hb2 := hm2.below;refine ⟨hb.os.trans hb2.os, hb.tape.trans hb2.tape, hb.output.trans hb2.output, by have := hb.size; rw [put_size] at this; exact Nat.le_trans hb2.size this, fun k hk hl => ?_⟩;refine (hb.block k (by rw [put_size]; exact Nat.lt_of_lt_of_le hk hb2.size) ?_).trans ((World.putObj_heap_other fun e => hl (.inl e)).trans (hb2.block k hk fun h => hl (.inr ((l1 k).1 h))));intro h;obtain ⟨id, ow, h1, rfl⟩ := (l2 _).1 h
   rcases (hm2.fresh id ow h1).1 with g | g
   ·omega
   ·exact hl (.inr ((l1 _).1 g))
  have fin : ∀ (mx : Mem) (jump : Option Code), sameIds (m g0) mx → goodM mx = true → MemL s3 mx →
    ∃ W4, (Instr.endRound lp jump).run E.P W3 = .ok (.bool jump.isNone) W4 ∧ BelowX Mo W1 W4 ∧ Jm ρ Mo lp D w2 (.loop (rec (if jump.isNone then .ready else .done) jump)) mx W4 := by
   intro mx jump hs hgd hml;have hr := run_endRound (P := E.P) jump f3
   have hrr : ({ ({ rec .ready none with state := .busy } : Loop) with state := if jump.isNone then .ready else .done, pending := jump } : Loop) = rec (if jump.isNone then .ready else .done) jump := by rw [hrec]
   rw [hrr] at hr;have b14 : BelowX L W1 (W3.putObj lp (.loop (rec (if jump.isNone then .ready else .done) jump))) := b13.trans (put_belowX _ _ _ (.inl rfl));refine ⟨_, hr, b14.mono hLMo, j1.trans b14, fun id blk hb => ?_, World.putObj_heap_same (Array.getElem?_eq_some_iff.1 f3).1, (World.putObj_heap_other (by omega)).trans f4⟩;have hρid := hx0 mx hs id blk hb;have hρ2id := hρ2 id _ hρid;have hρ3 : ∀ id y, ρ2 id = some y → ρ3 id = some y := fun id y h => hm3.keep id y ((lookO_mapk (fun id => (ρ2 id).getD none)).2 ⟨hm2.dom id y h, by simp only [h, Option.getD_some]⟩)
   have hsub3 : ∀ b, Mo b → owned M2 ρ3 b := fun b h => by
    have h1 := hMM b h;rw [← o2] at h1
    rcases h1 with h1 | ⟨id, ow, h1, rfl⟩
    ·exact .inl h1
    ·exact .inr ⟨id, ow, hρ3 id _ h1, rfl⟩
   have hgr2 := List.all_eq_true.1 hgd _ (lookO_mem _ hb);simp only [Bool.and_eq_true] at hgr2;have h5 : BRel W3 Mo ρ id blk := BRel.ground hgr2.2 (hρid.trans (hρ3 id _ hρ2id).symm) ((hm3.blk id blk (memL_look hml id blk hb)).sub hsub3);exact h5.mono none (by simp) (noref_none _) (fun ow ho => World.putObj_heap_other (by have := hρlt id ow ho; omega)) (fun b _ hno => World.putObj_heap_other fun e => hno (.inr (.inr e))) (fun _ _ h => h) (fun _ _ _ => rfl)
  cases e2 with
  | normal =>
   obtain ⟨g', hI', hq⟩ := hq;obtain ⟨W4, g1, g2, g3⟩ := fin (m g') none (hids _) (hgood _) hq;exact ⟨_, W4, g1, g2, .inl ⟨rfl, g', hI', g3⟩⟩
  | ret =>
   obtain ⟨mx, q1, q2, q3, q4⟩ := hq;obtain ⟨W4, g1, g2, g3⟩ := fin mx (some .ret) q2 q3 q4;exact ⟨_, W4, g1, g2, .inr ⟨rfl, _, mx, q1, q2, g3⟩⟩
  | exit id =>
   obtain ⟨mx, q1, q2, q3, q4⟩ := hq;obtain ⟨W4, g1, g2, g3⟩ := fin mx (some (.exit id)) q2 q3 q4;exact ⟨_, W4, g1, g2, .inr ⟨rfl, _, mx, q1, q2, g3⟩⟩
  | _ => exact hq.elim
 ·-- AT THE START
  refine ⟨g0, hg0, BelowX.refl _ w2, fun id blk hb => ?_, hL, hD⟩;exact (hm.blk id blk hb).mono none (by simp) (noref_none _) (fun ow ho => hgr.block _ (by have := hρlt id ow ho; omega)) hgr.hh hMoSub (fun _ _ _ => rfl)
 ·-- BEHIND THE ITERATOR
  rintro e W' ⟨⟨v, rfl⟩, ⟨gg, hI, hJ⟩ | ⟨pre, hpre, c, mx, q1, q2, hJ⟩⟩
  ·refine ⟨none, _, ?_, _, back _ _ _ _ (hids gg) hJ, hdone gg hI⟩;have := run_endLoop (P := E.P) hJ.2.2.1 (by rw [hrec]; simp);rw [this, hrec]
  ·have hl := run_endLoop (P := E.P) hJ.2.2.1 (by rw [hrec]; simp);have hb := hstop c pre mx hpre q1 _ _ (back _ _ _ _ q2 hJ);rw [hF] at hb
   have hpe : (rec .done (some c)).pending = some c := by rw [hrec]
   refine ⟨some c, _, ?_, hb⟩;rw [hl];subst hrec
   rfl
end
section
variable {E : Env} {w0 : World} {M0 : Nat → Prop}
theorem cells_taken {w : World} {D : Nat} (hD : w.heap[D]? = some (.deferred (some []))) (o : Obj) : CellsAs w (w.putObj D o) := by
 intro a v h
 by_cases hb : a.block = D
 ·unfold World.cell? at h;rw [hb, hD] at h
  cases h
 ·unfold World.cell? at h ⊢;rw [World.putObj_heap_other hb];exact h
def G.inert (r : G) : Prop := ∀ (w : World) M u D o, r.p w M u → w.heap[D]? = some (.deferred (some [])) → r.p (w.putObj D o) M u
theorem inert_lit (v : Value) : (G.lit v).inert := fun _ _ _ _ _ h _ => h
theorem fitsT_inert : ∀ {cs : List G}, (∀ c ∈ cs, c.inert) → ∀ {w : World} {M : Nat → Prop} {vs : List Value} {D : Nat} {o : Obj}, FitsT w M cs vs → w.heap[D]? = some (.deferred (some [])) → FitsT (w.putObj D o) M cs vs
 | [], _, _, _, [], _, _, h, _ => h
 | c :: cs, hc, w, M, v :: vs, D, o, h, hD => ⟨hc c List.mem_cons_self _ _ _ _ _ h.1 hD, fitsT_inert (fun x hx => hc x (List.mem_cons_of_mem _ hx)) h.2 hD⟩
 | [], _, _, _, _ :: _, _, _, h, _ => h.elim
 | _ :: _, _, _, _, [], _, _, h, _ => h.elim
theorem inert_tup {cs : List G} (h : ∀ c ∈ cs, c.inert) : (G.tup cs).inert := fun _ _ _ _ _ ⟨vs, h1, h2⟩ hD => ⟨vs, h1, fitsT_inert h h2 hD⟩
theorem inert_nil : ∀ c ∈ ([] : List G), c.inert := fun _ h => by cases h
theorem inert_cons {c : G} {cs : List G} (h : c.inert) (hs : ∀ c ∈ cs, c.inert) : ∀ x ∈ c :: cs, x.inert := fun x hx => by
 rcases List.mem_cons.1 hx with rfl | hx
 ·exact h
 ·exact hs x hx
theorem leaves_marks {P : Program} {fn : Func} {tmps : Array Value} {w : World} {M : Nat → Prop} {r : G} {v : Value} (hin : r.inert) : ∀ (ds : List Deferred) (w1 : World), ds.Nodup →
  (∀ d ∈ ds, ∃ D, d = { target := .collected D, args := #[] } ∧ w.heap.size ≤ D ∧ w1.heap[D]? = some (.deferred (some []))) → Grow w w1 → (∀ w', CellsAs w1 w' → (results fn tmps).run P w' = .ok v w') → r.p w1 M v →
  LeavesInM Fence.wide 0 P fn tmps (fun e w'' => ∃ v, e = .returned v ∧ Grow w w'' ∧ r.p w'' M v) ds .returning w1
 | [], w1, _, _, hg, hr, hp => ⟨v, hr w1 (fun _ _ h => h), v, rfl, hg, hp⟩
 | d :: ds, w1, hn, hd, hg, hr, hp => by
  obtain ⟨D, rfl, hlt, hD⟩ := hd _ List.mem_cons_self;obtain ⟨hn1, hn2⟩ := List.nodup_cons.1 hn;refine ⟨by simp, .inl ⟨D, _, rfl, run_takeDeferred hD, ?_⟩⟩;refine leaves_marks hin ds _ hn2 (fun d' hd' => ?_) ?_ (fun w' hw => hr w' fun a u hu => hw a u (cells_taken hD _ a u hu)) (hin _ _ _ _ _ hp hD)
  ·obtain ⟨D', rfl, hlt', hD'⟩ := hd d' (List.mem_cons_of_mem _ hd');exact ⟨D', rfl, hlt', (World.putObj_heap_other (fun e => hn1 (by rw [← e]; exact hd'))).trans hD'⟩
  ·exact ⟨hg.os, hg.tape, hg.output, by rw [put_size]; exact hg.size, fun k hk => (World.putObj_heap_other (by omega)).trans (hg.block k hk)⟩
def Env.mked (E : Env) : Env := ⟨E.P, E.gl, E.orders, E.bow, E.rnd, true⟩
theorem Con.mked {f : FuncId} {args : List G} {r : G} (h : Con E f args r) : Con E.mked f args r := h
theorem ConB.mked {f : FuncId} {args : List TV} {r : G} {m m' : Mem} (h : ConB E f args m r m') : ConB E.mked f args m r m' := h
theorem con_of_awm {f : FuncId} {fn : Func} {c : Code} {args : List G} {r : G} (hf : E.P.funcs[f]? = some fn) (hb : fn.body = some c) (hn0 : Nat.ble args.length fn.ntmps = true) (hin : r.inert)
  (h : ∀ w0 M0, AWp E.mked w0 M0 c (Done E.mked fn r) ⟨fn.ntmps, initT args, []⟩) (hbw : E.bow = [] := by rfl) (hrn : E.rnd = none := by rfl) : Con E f args r := by
 intro w M vs hM hgl hv;have hn := Nat.le_of_ble_eq_true hn0;have hlen := hv.length
 have hF : E.mked.F = Fence.wide := by unfold Env.F Env.mked; rw [hrn]; rfl
 suffices hci : CallsIn Fence.wide 0 E.P f vs.toArray w (fun e w' => ∃ v, e = .returned v ∧ Grow w w' ∧ r.p w' M v) from callsIn_wide.1 hci
 refine callsIn_of_wp_marks hf hb trivial ?_ rfl
 have ha : ARel E.mked w M ⟨fn.ntmps, initT args, []⟩ { tmps := vs.toArray ++ Array.replicate (fn.ntmps - vs.toArray.size) undef, defers := [] } w := by
  refine ⟨fun _ => rfl, ?_, fun _ => none, ?_, Marks.nil, ?_⟩
  ·simp; omega
  ·refine ⟨BelowX.refl _ w, hM, ?_, ?_, ?_, ?_, (fun id x h => by rw [show E.mked.bow = [] from hbw] at h; cases h), (fun b h => absurd h (lent_nil hbw)), ?_⟩
   ·intro g vs hg;have := hgl g vs hg
    have hiff : ∀ b, owned M (fun _ => none) b → M b := by rintro b (h | ⟨_, _, h, _⟩); exact h; cases h
    exact ⟨⟨fun h => this.1.1 (hiff _ h), this.1.2⟩, this.2.mono (fun _ _ _ => rfl) (fun b _ h => hiff b h) this.1.1⟩
   ·intro _ _ h; cases h
   ·intro _ _ h; cases h
   ·intro _ _ _ _ h; cases h
   ·intro _ _ h; cases h
  ·intro i;have hv' : FitsT w (owned M (fun _ => none)) args vs := hv.mono (fun _ _ _ => rfl) (by rintro b _ (h | ⟨_, _, h, _⟩); exact h; cases h);have := initT_rel (ρ := fun _ => none) (fn.ntmps - vs.length) hv' i;show TRel _ _ _ (initT args i) _;rw [Array.getD_eq_getD_getElem?];rw [show (vs.toArray ++ Array.replicate (fn.ntmps - vs.toArray.size) undef) = (vs ++ List.replicate (fn.ntmps - vs.length) undef).toArray by simp];rw [List.getElem?_toArray];exact this
 have hw := h w M _ w ha;rw [hF] at hw;refine wpIn_mono hw ?_;rintro e a' w' ⟨s', ha', hq⟩
 have fin : ResOk E.mked fn s' r → LeavesInM Fence.wide 0 E.P fn a'.tmps (fun e w'' => ∃ v, e = .returned v ∧ Grow w w'' ∧ r.p w'' M v) a'.defers .returning w' := by
  intro hq;obtain ⟨ρ, hm, hmk, ht⟩ := ha'.ex;obtain ⟨v, h1, h2, h3⟩ := hq.run ρ w' a'.tmps hm ht;have hg : Grow w w' := hm.below.grow (fun _ => lent_nil hbw)
  exact leaves_marks hin a'.defers w' hmk.1 (fun d hd => by
   obtain ⟨D, q1, q2, q3⟩ := hmk.2 d hd
   exact ⟨D, q1, q2, q3.2⟩) hg h3 (r.mono h2 (fun _ _ _ => rfl) (fun _ _ h => .inl h))
 cases e with
 | ret => exact fin hq
 | normal => exact fin hq
 | _ => exact hq.elim
end
section
variable {E : Env} {w0 : World} {M0 : Nat → Prop}
def RoundC {γ : Type} (E : Env) (w0 : World) (M0 : Nat → Prop) (Q : Exit → ASt → Prop) (n : Nat) (t : Nat → TV) (m : γ → Mem) (K : γ → Prop) (m0 : Mem) : Exit → ASt → Prop
 | .normal, s => ∃ g, K g ∧ MemL s (m g)
 | .ret, s => ∃ mx, AWp E w0 M0 .ret Q ⟨n, t, mx⟩ ∧ sameIds m0 mx ∧ goodM mx = true ∧ MemL s mx
 | .exit id, s => ∃ mx, AWp E w0 M0 (.exit id) Q ⟨n, t, mx⟩ ∧ sameIds m0 mx ∧ goodM mx = true ∧ MemL s mx
 | _, _ => False
theorem aw_rangeC {α γ : Type} {gop : Operand} {p : Tmp} {assign body : Code} {Q : Exit → ASt → Prop} {n : Nat} {l : List (Nat × TV)} {gf : FuncId} {caps : List G} {enc : α → Value} {s : ASt}
  (xs : List α) (m : γ → Mem) (K : List α → γ → Prop) (g0 : γ) (S1 : γ → α → (Nat → TV) × Mem)
  (hn : s.n = n) (hwk : WeakL s l) (hwm : MemL s (m g0)) (hcl : closedB l (m g0) = true)
  (hg : ASt.eval E ⟨n, lookT l, m g0⟩ gop = .g (.fn (.func gf) [] caps)) (hk : Known E.P gf) (hseq : Seq E gf caps enc xs)
  (hK0 : K xs g0) (hp : Nat.blt p n = true) (hids : ∀ g, sameIds (m g0) (m g)) (hgood : ∀ g, goodM (m g) = true)
  (hassign : ∀ x g lp w1 M1 x1, AWp (E.turn lp (m g) x1) w1 M1 assign (fun e s' => e = .normal ∧ s' = ⟨n, (S1 g x).1, (S1 g x).2⟩) ⟨n, upd p (.g (.lit (enc x))) (lookT l), m g⟩)
  (hlive1 : ∀ g x, liveM (S1 g x).2 = true)
  (hbody : ∀ x post g, (∃ pre, xs = pre ++ x :: post) → K (x :: post) g → ∀ lp w1 M1 x1, AWp (E.turn lp (S1 g x).2 x1) w1 M1 body (RoundC E w0 M0 Q n (lookT l) m (K post) (m g0)) ⟨n, (S1 g x).1, (S1 g x).2⟩)
  (hdone : ∀ g, K [] g → Q .normal ⟨n, lookT l, m g⟩)
  (hbw : bowIn E (m g0) = true := by rfl) (hmk : E.mks = true := by rfl) (hrn : E.rnd = none := by rfl) : AWp E w0 M0 (.rangeFunc gop #[p] assign body) Q s := by
 refine aw_weak (l := l) hwk hwm hcl ?_ hbw;show AWp E w0 M0 _ Q ⟨s.n, lookT l, m g0⟩;rw [hn];refine aw_rangeFunc m (fun pre g => ∃ tl, xs = pre ++ tl ∧ K tl g) g0 (fun g x => ⟨n, (S1 g x).1, (S1 g x).2⟩) (fun c _ mx => AWp E w0 M0 c Q ⟨n, lookT l, mx⟩) hmk hrn hk (Nat.le_of_ble_eq_true hp) hg hseq ⟨xs, rfl, hK0⟩ hids hgood
  (fun pre x post g _ _ lp w1 M1 x1 => hassign x g lp w1 M1 x1) hlive1 ?_ ?_ (fun _ _ _ _ h => h)
 ·rintro pre x post g hxs ⟨tl, htl, hK⟩ lp w1 M1 x1;obtain rfl : tl = x :: post := List.append_cancel_left (htl.symm.trans hxs);refine (hbody x post g ⟨pre, hxs⟩ hK lp w1 M1 x1).mono ?_;rintro e s' h
  cases e with
  | normal =>
   obtain ⟨g', h1, h2⟩ := h;exact ⟨g', ⟨post, by rw [hxs]; simp, h1⟩, h2⟩
  | ret => exact h
  | exit id => exact h
  | _ => exact h
 ·rintro g ⟨tl, htl, hK⟩
  obtain rfl : tl = [] := by
   have := congrArg List.length htl
   simp at this
   exact this
  exact hdone g hK
end
section
variable {E : Env}
end
end Go.Sim
namespace Go.Proofs
open Go.RowKit Go.Shelf
attribute [local go_sem] Oper.semAt_some
def winL (s m : Int) : Nat → Int → List Int
 | 0, _ => []
 | n + 1, b => if b ≤ m then b :: winL s m n (b + s) else []
def win0 (len s m : Int) : Int := (max 0 (m - len + 1) + s - 1) / s * s
set_option maxRecDepth 100000 in
set_option maxHeartbeats 1000000 in
theorem win_in (l b0 o0 b1 o1 : Nat) (M : Nat → Prop) (m len st : Int) (hm : 0 ≤ m) (hm2 : m ≤ 143999999) (hl : 1 ≤ len) (hl2 : len ≤ 1440) (hs : 1 ≤ st) (hs2 : st ≤ 1440) (J Jx : List Int → World → Prop)
  (hJd : ∀ pre W W', J pre W → Sim.Grow W W' → J pre W')
  (w : World) (hb0 : b0 < w.heap.size ∧ ¬ M b0) (hb1 : b1 < w.heap.size ∧ ¬ M b1)
  (hY : ∀ pre x post W1, winL st m 1450 (win0 len st m) = pre ++ x :: post → Sim.BelowX M w W1 → J pre W1 → YieldAt Fence.wide 0 Tryz.prog l #[.int .i64 x] W1 fun e W' =>
   Sim.BelowX M W1 W' ∧ ((e = .returned (.bool true) ∧ J (pre ++ [x]) W') ∨ (e = .returned (.bool false) ∧ Jx (pre ++ [x]) W')))
  (c0 : w.cell? ⟨b0, o0, none⟩ = some (.int .i64 m)) (c1 : w.cell? ⟨b1, o1 + 2, none⟩ = some (.int .i64 len)) (c2 : w.cell? ⟨b1, o1 + 3, none⟩ = some (.int .i64 st)) (h0 : J [] w) :
  CallsIn Fence.wide 0 Tryz.prog 156 #[.func (.yield l) #[] #[], .pointer (some ⟨b0, o0, none⟩), .pointer (some ⟨b1, o1, none⟩)] w fun e W' => (∃ v, e = .returned v) ∧
   (J (winL st m 1450 (win0 len st m)) W' ∨ ∃ pre, pre <+: winL st m 1450 (win0 len st m) ∧ Jx pre W') := by
 refine callsIn_of_wp Tryz.func156 rfl trivial ?_ rfl;simp only [Tryz.ntmps156, List.size_toArray, List.length_cons, List.length_nil, Nat.reduceAdd, Nat.reduceSub, Array.replicate_succ, Array.replicate_zero, List.push_toArray, List.append_toArray, List.nil_append, List.cons_append]
 have hwin : ∀ a : Int, 0 ≤ a → a ≤ 143999999 → max 0 (m - len + 1) = a → IntKind.i64.wrap ((a + st - 1) / st * st) = win0 len st m ∧ 0 ≤ win0 len st m ∧ win0 len st m ≤ 145000000 ∧ m - len + 1 ≤ win0 len st m := by
  intro a h0 h1 h2;have e0 : (a + st - 1) % st + st * ((a + st - 1) / st) = a + st - 1 := Int.emod_add_mul_ediv _ _;have e1 := Int.emod_nonneg (a + st - 1) (show st ≠ 0 by omega);have e2 := Int.emod_lt_of_pos (a + st - 1) (show 0 < st by omega)
  have e3 : win0 len st m = (a + st - 1) / st * st := by unfold win0; rw [h2]
  rw [e3, Int.mul_comm ((a + st - 1) / st) st];generalize st * ((a + st - 1) / st) = q at *;generalize (a + st - 1) % st = r at *;refine ⟨?_, by omega, by omega, by omega⟩;exact Sim.wrap_i64 (by unfold Sim.I64; omega)
 gi_wp2
 case inr h =>
  obtain ⟨hE, hE0, hE1, hE2⟩ := hwin 0 (by omega) (by omega) (by omega);rw [show (0 + st - 1 : Int) = st - 1 by omega] at hE;refine wpIn_region_quiet_lit rfl (by kernel_rfl) (by kernel_rfl) ?_
  repeat (gi_big_quiet_step (fail))
  refine wpQuietIn_nil ?_;intro _ hw';obtain ⟨nq, hw''⟩ := hw';subst hw''
  gi_wp2
  gi_loopw [5] (fun p wr => ∃ (pre : List Int) (k : Nat) (d : Int), p = .int .i64 d ∧ 0 ≤ d ∧ d ≤ 145001440 ∧ m + 1 - d ≤ (k : Int) ∧ winL st m 1450 (win0 len st m) = pre ++ winL st m k d ∧ Sim.BelowX M w wr ∧ J pre wr)
   (fun p _ => (m + 1 - intOf p).toNat)
  case atStart => exact ⟨[], 1450, win0 len st m, rfl, hE0, by omega, by omega, rfl, ⟨rfl, rfl, rfl, Nat.le_refl _, fun _ _ _ => rfl⟩, hJd _ _ _ h0 ⟨rfl, rfl, rfl, Nat.le_refl _, fun _ _ => rfl⟩⟩
  case round =>
   obtain ⟨pre, k, d, rfl, hd1, hd2, hk, hx, hB, hJs⟩ := hrel
   have cell : ∀ b o v, b < w.heap.size → ¬ M b → w.cell? ⟨b, o, none⟩ = some v → wr.cell? ⟨b, o, none⟩ = some v := fun b o v h1 h2 h3 => by
    have := hB.block b h1 h2;unfold World.cell? at h3 ⊢;rw [this]; exact h3
   have c0' := cell _ _ _ hb0.1 hb0.2 c0;have c1' := cell _ _ _ hb1.1 hb1.2 c1;have c2' := cell _ _ _ hb1.1 hb1.2 c2;clear c0 c1 c2
   by_cases hlt : d ≤ m
   ·have hk1 : ∃ k', k = k' + 1 := ⟨k - 1, by omega⟩;obtain ⟨k', rfl⟩ := hk1
    have hs' : winL st m (k' + 1) d = d :: winL st m k' (d + st) := by rw [winL, if_pos hlt]
    rw [hs'] at hx
    obtain ⟨fn, tmps, assign, body, hy, hR'⟩ := YieldAt.mono (hY pre d _ wr hx hB hJs) (R' := fun e W' => ∃ bb : Bool, e = .returned (.bool bb) ∧ Sim.BelowX M wr W' ∧ ((bb = true → J (pre ++ [d]) W') ∧ (bb = false → Jx (pre ++ [d]) W'))) (by
     rintro e W' ⟨k0, ⟨rfl, k1⟩ | ⟨rfl, k1⟩⟩
     ·exact ⟨true, rfl, k0, (fun _ => k1), (fun h => (by cases h))⟩
     ·exact ⟨false, rfl, k0, (fun h => (by cases h)), (fun _ => k1)⟩)
    have X1 := Lib.hid hx; clear hx
    gi_wp2
    refine ⟨rfl, ?_⟩;refine hR'.mono ?_;rintro e W' ⟨bb, rfl, hB2, hT, hF⟩;have hBw : Sim.BelowX M w W' := ⟨hB2.os.trans hB.os, hB2.tape.trans hB.tape, hB2.output.trans hB.output, Nat.le_trans hB.size hB2.size, fun q hq hn => (hB2.block q (Nat.lt_of_lt_of_le hq hB.size) hn).trans (hB.block q hq hn)⟩
    have c2'' : W'.cell? ⟨b1, o1 + 3, none⟩ = some (.int .i64 st) := by
     have := hB2.block b1 (Nat.lt_of_lt_of_le hb1.1 hB.size) hb1.2;unfold World.cell? at c2' ⊢;rw [this]; exact c2'
    cases bb with
    | true =>
     have hJ3 := hT rfl;clear hT hF
     go_simp
     gi_wp2
     go_roundw
     case rel => exact ⟨pre ++ [d], k', d + st, rfl, by omega, by omega, by omega, by rw [X1.out]; simp, hBw, hJ3⟩
     case measure => simp [intOf]; omega
    | false =>
     have hX := hF rfl;clear hT hF
     go_simp
     gi_wp2
     refine bodyPost_ret (results_none rfl _ _ _) rfl ?_;exact ⟨⟨_, rfl⟩, .inr ⟨pre ++ [d], ⟨winL st m k' (d + st), by rw [X1.out]; simp⟩, hX⟩⟩
   ·have hs' : winL st m k d = [] := by
     cases k with
     | zero => rfl
     | succ k => rw [winL, if_neg hlt]
    rw [hs', List.append_nil] at hx;have X1 := Lib.hid hx; clear hx
    gi_wp2
    go_end0
    refine ⟨⟨_, rfl⟩, .inl ?_⟩;rw [X1.out]; exact hJs
 case inl h =>
  obtain ⟨hE, hE0, hE1, hE2⟩ := hwin (m - len + 1) (by omega) (by omega) (by omega);refine wpIn_region_quiet_lit rfl (by kernel_rfl) (by kernel_rfl) ?_
  repeat (gi_big_quiet_step (fail))
  refine wpQuietIn_nil ?_;intro _ hw';obtain ⟨nq, hw''⟩ := hw';subst hw''
  gi_wp2
  gi_loopw [5] (fun p wr => ∃ (pre : List Int) (k : Nat) (d : Int), p = .int .i64 d ∧ 0 ≤ d ∧ d ≤ 145001440 ∧ m + 1 - d ≤ (k : Int) ∧ winL st m 1450 (win0 len st m) = pre ++ winL st m k d ∧ Sim.BelowX M w wr ∧ J pre wr)
   (fun p _ => (m + 1 - intOf p).toNat)
  case atStart => exact ⟨[], 1450, win0 len st m, rfl, hE0, by omega, by omega, rfl, ⟨rfl, rfl, rfl, Nat.le_refl _, fun _ _ _ => rfl⟩, hJd _ _ _ h0 ⟨rfl, rfl, rfl, Nat.le_refl _, fun _ _ => rfl⟩⟩
  case round =>
   obtain ⟨pre, k, d, rfl, hd1, hd2, hk, hx, hB, hJs⟩ := hrel
   have cell : ∀ b o v, b < w.heap.size → ¬ M b → w.cell? ⟨b, o, none⟩ = some v → wr.cell? ⟨b, o, none⟩ = some v := fun b o v h1 h2 h3 => by
    have := hB.block b h1 h2;unfold World.cell? at h3 ⊢;rw [this]; exact h3
   have c0' := cell _ _ _ hb0.1 hb0.2 c0;have c1' := cell _ _ _ hb1.1 hb1.2 c1;have c2' := cell _ _ _ hb1.1 hb1.2 c2;clear c0 c1 c2
   by_cases hlt : d ≤ m
   ·have hk1 : ∃ k', k = k' + 1 := ⟨k - 1, by omega⟩;obtain ⟨k', rfl⟩ := hk1
    have hs' : winL st m (k' + 1) d = d :: winL st m k' (d + st) := by rw [winL, if_pos hlt]
    rw [hs'] at hx
    obtain ⟨fn, tmps, assign, body, hy, hR'⟩ := YieldAt.mono (hY pre d _ wr hx hB hJs) (R' := fun e W' => ∃ bb : Bool, e = .returned (.bool bb) ∧ Sim.BelowX M wr W' ∧ ((bb = true → J (pre ++ [d]) W') ∧ (bb = false → Jx (pre ++ [d]) W'))) (by
     rintro e W' ⟨k0, ⟨rfl, k1⟩ | ⟨rfl, k1⟩⟩
     ·exact ⟨true, rfl, k0, (fun _ => k1), (fun h => (by cases h))⟩
     ·exact ⟨false, rfl, k0, (fun h => (by cases h)), (fun _ => k1)⟩)
    have X1 := Lib.hid hx; clear hx
    gi_wp2
    refine ⟨rfl, ?_⟩;refine hR'.mono ?_;rintro e W' ⟨bb, rfl, hB2, hT, hF⟩;have hBw : Sim.BelowX M w W' := ⟨hB2.os.trans hB.os, hB2.tape.trans hB.tape, hB2.output.trans hB.output, Nat.le_trans hB.size hB2.size, fun q hq hn => (hB2.block q (Nat.lt_of_lt_of_le hq hB.size) hn).trans (hB.block q hq hn)⟩
    have c2'' : W'.cell? ⟨b1, o1 + 3, none⟩ = some (.int .i64 st) := by
     have := hB2.block b1 (Nat.lt_of_lt_of_le hb1.1 hB.size) hb1.2;unfold World.cell? at c2' ⊢;rw [this]; exact c2'
    cases bb with
    | true =>
     have hJ3 := hT rfl;clear hT hF
     go_simp
     gi_wp2
     go_roundw
     case rel => exact ⟨pre ++ [d], k', d + st, rfl, by omega, by omega, by omega, by rw [X1.out]; simp, hBw, hJ3⟩
     case measure => simp [intOf]; omega
    | false =>
     have hX := hF rfl;clear hT hF
     go_simp
     gi_wp2
     refine bodyPost_ret (results_none rfl _ _ _) rfl ?_;exact ⟨⟨_, rfl⟩, .inr ⟨pre ++ [d], ⟨winL st m k' (d + st), by rw [X1.out]; simp⟩, hX⟩⟩
   ·have hs' : winL st m k d = [] := by
     cases k with
     | zero => rfl
     | succ k => rw [winL, if_neg hlt]
    rw [hs', List.append_nil] at hx;have X1 := Lib.hid hx; clear hx
    gi_wp2
    go_end0
    refine ⟨⟨_, rfl⟩, .inl ?_⟩;rw [X1.out]; exact hJs
end Go.Proofs
namespace Go.Sim
open Go.Proofs
theorem ref_one {w : World} {M : Nat → Prop} {v : Value} {g : G} {gs : List G} (h : (G.ref (g :: gs)).p w M v) : ∃ b o, v = .pointer (some ⟨b, o, none⟩) ∧ ¬ M b ∧ Cells w M b o (g :: gs) := by
 obtain ⟨b, o, h1, h2, h3⟩ := h;exact ⟨b, o, h1, h2.resolve_left (by simp), h3⟩
theorem win_seq {g : List (Nat × List Value)} (a : S1063) (m : Int) (hm : 0 ≤ m) (hm2 : m ≤ 143999999) (hl : 1 ≤ a.Length) (hl2 : a.Length ≤ 1440) (hs : 1 ≤ a.Step) (hs2 : a.Step ≤ 1440) :
  Seq (EG g) 156 [G.ref [G.int m], G.ref [G.str a.Terminal, G.str a.Kind, G.int a.Length, G.int a.Step, G.int a.Most]] (Value.int .i64) (winL a.Step m 1450 (win0 a.Length a.Step m)) := by
 intro w M cs l J Jx hM hgl hfit hJd hJxd hY h0
 match cs, hfit with
 | [c0, c1], hf =>
  obtain ⟨h1, h2, _⟩ := hf;obtain ⟨b0, o0, rfl, k0, r0⟩ := ref_one h1;obtain ⟨b1, o1, rfl, k1, r1⟩ := ref_one h2;obtain ⟨⟨v0, e0, p0, _⟩, _⟩ := r0;obtain ⟨_, _, ⟨v2, e2, p2, _⟩, ⟨v3, e3, p3, _⟩, _⟩ := r1;have p0 : v0 = .int .i64 m := p0;have p2 : v2 = .int .i64 a.Length := p2;have p3 : v3 = .int .i64 a.Step := p3;subst p0 p2 p3;exact win_in l b0 o0 b1 o1 M m a.Length a.Step hm hm2 hl hl2 hs hs2 J Jx hJd w ⟨block_lt_of_cell e0, k0⟩ ⟨block_lt_of_cell e2, k1⟩ hY e0 e2 e3 h0
end Go.Sim
set_option maxRecDepth 10000
namespace Go.Sim
open Go.Proofs
theorem c1114 {g : List (Nat × List Value)} (a0 : S1063) (a1 : Int) : Con (EG g) 114 [G.agg [G.str a0.Terminal, G.str a0.Kind, G.int a0.Length, G.int a0.Step, G.int a0.Most], G.int a1] (G.fn (.func 156) [] [G.ref [G.int a1], G.ref [G.str a0.Terminal, G.str a0.Kind, G.int a0.Length, G.int a0.Step, G.int a0.Most]]) := by
 refine con_of_aw Tryz.func114 rfl rfl fun w0 M0 => ?_;refine aw_seq ?_;refine aw_region [.p, .p, .p] ?_;refine st rfl rfl (eff_box rfl rfl) rfl ?_;refine st rfl rfl (eff_box rfl rfl) rfl ?_;refine st rfl rfl (eff_assigng rfl rfl) rfl ?_;refine st_nil ?_;refine aw_seq ?_;refine aw_region [.p, .p] ?_;refine st rfl rfl (eff_makeF rfl rfl rfl) rfl ?_;refine st rfl rfl (eff_assigng rfl rfl) rfl ?_;refine st_nil ?_;refine aw_ret ?_;exact res_c rfl (rv_g rfl)
def winsOf (a : S1063) (m : Int) : List Int := winL a.Step m 1450 (win0 a.Length a.Step m)
theorem win_ok {g : List (Nat × List Value)} {a : S1063} {m : Int} (h : SeatOk a) (h0 : 0 ≤ m) (h1 : m ≤ 143999999) :
  Seq (EG g) 156 [G.ref [G.int m], G.ref [G.str a.Terminal, G.str a.Kind, G.int a.Length, G.int a.Step, G.int a.Most]] (Value.int .i64) (winsOf a m) :=
 win_seq a m h0 h1 h.l0 h.l1 h.s0 (by have := h.s1; have := h.l1; omega)
theorem room_in {a0 : List S1063} {a1 : List S1079} {a2 : S1079} (h : ¬ s1085 [(s1029 a0), (s1027 a1), (s1027 [a2])] ≠ 0) : (∀ x ∈ a0, SeatOk x) ∧ MovOk a2 := by
 have h := Decidable.not_not.1 h;rw [s1085_eq, s89_zero] at h;exact ⟨(seats_ok (h (s1029 a0) (by simp))).2, (movs_ok (l := [a2]) (h (s1027 [a2]) (by simp))).2 a2 (by simp)⟩
end Go.Sim
set_option maxRecDepth 10000
namespace Go.Sim
open Go.Proofs
def s1045_j1 (rec1 : Nat → Bool → Int → Option (Int × Int)) (k4 : Nat) (x7 : Bool) (x8 : Int) : Option (Int × Int) :=
 rec1 (k4 + 1) x7 x8
def s1045_l2 (rec1 : Nat → Bool → Int → Option (Int × Int)) (k4 : Nat) (y5 : S1063) (r9 : S1195) : List Int → Int → Option (Int × Int)
 | [], x10 => s1045_j1 rec1 k4 true x10
 | y11 :: t12, x10 => bindO (s1112 r9 y11 y5.Length) fun r13 => s1045_l2 rec1 k4 y5 r9 t12 (min x10 (IntKind.i64.wrap (y5.Most - r13)))
def s1045_l1 (a1 : List S1079) (a2 : S1079) : List S1063 → Nat → Bool → Int → Option (Int × Int)
 | [], k4, x1, x3 => (bif !x1 then some (0, 7) else some (max 0 x3, 0))
 | y5 :: t6, k4, x1, x3 => (bif !(s1116 y5 a2) then s1045_j1 (fun k_ z0_ z1_ => s1045_l1 a1 a2 t6 k_ z0_ z1_) k4 x1 x3 else bindO (s1111 y5 a1) fun r9 => s1045_l2 (fun k_ z0_ z1_ => s1045_l1 a1 a2 t6 k_ z0_ z1_) k4 y5 r9 (winsOf y5 a2.Moment) x3)
def s1045 (a0 : List S1063) (a1 : List S1079) (a2 : S1079) : Option (Int × Int) :=
 (bif decide ((s1085 [(s1029 a0), (s1027 a1), (s1027 [a2])]) ≠ 0) then some (0, (s1085 [(s1029 a0), (s1027 a1), (s1027 [a2])])) else s1045_l1 a1 a2 a0 0 false 999)
theorem c1045 {g : List (Nat × List Value)} (a0 : List S1063) (a1 : List S1079) (a2 : S1079) {R : Int × Int}  (hb : ¬ s1085 [(s1029 a0), (s1027 a1), (s1027 [a2])] ≠ 0 → a1.length ≤ 12) (hR : s1045 a0 a1 a2 = some R) : Con (EG g) 45 [G.sl 5 (List.map S1063.c a0), G.sl 7 (List.map S1079.c a1), G.agg [G.int a2.Moment, G.str a2.Kind, G.str a2.Terminal, G.int a2.Seats, G.int a2.Size, G.int a2.Noise, G.str a2.Name]] (G.tup [G.int R.1, G.int R.2]) := by
 unfold s1045 at hR;refine con_of_awm Tryz.func45 rfl rfl (inert_tup (inert_cons (inert_lit _) (inert_cons (inert_lit _) inert_nil))) fun w0 M0 => ?_;refine len_sl (f := S1063.c) (l := a0) 0 rfl fun hla0 => ?_;refine len_sl (f := S1079.c) (l := a1) 1 rfl fun hla1 => ?_;refine aw_seq ?_;refine aw_region [.p, .p, .p] ?_;refine st rfl rfl (eff_box rfl rfl) rfl ?_;refine st rfl rfl (eff_assigng rfl rfl) rfl ?_;refine st rfl rfl (eff_assigng rfl rfl) rfl ?_;refine st_nil ?_;refine aw_seq ?_;refine aw_seq ?_;refine aw_draw [.p, .p, .p, .p, .p, .p, .p, .p, .p, .p] (by kernel_rfl) ?_;refine st rfl rfl (eff_moveg rfl rfl) rfl ?_;refine st rfl rfl (eff_call rfl K1029 rfl (c1029 a0) (ag_cons rfl ag_nil)) rfl ?_;refine st rfl rfl (eff_moveg rfl rfl) rfl ?_;refine st rfl rfl (eff_call rfl K1027 rfl (c1027 a1) (ag_cons rfl ag_nil)) rfl ?_;refine st rfl rfl (eff_loadA rfl ty1080 rfl rfl rfl) rfl ?_;refine st rfl rfl (eff_buildSlice rfl Tryz.underlying25 ty1080 z1080 rfl (ps_cons rfl ps_nil) rfl (by simp [S1079.c]) (by decide)) rfl ?_;refine st rfl rfl (eff_call rfl K1027 rfl (c1027 [a2]) (ag_cons rfl ag_nil)) rfl ?_;refine st rfl rfl (eff_buildSlice rfl Tryz.underlying222 ty37 z37 rfl (ps_cons rfl (ps_cons rfl (ps_cons rfl ps_nil))) rfl (by simp []) (by decide)) rfl ?_;refine st rfl rfl (eff_call rfl K1085 rfl (c1085 [(s1029 a0), (s1027 a1), (s1027 [a2])]) (ag_cons rfl ag_nil)) rfl ?_;refine st rfl rfl (eff_assigng rfl rfl) rfl ?_;refine st_nil ?_;refine aw_seq ?_;refine aw_region [.p, .p] ?_;refine st rfl rfl (eff_moveg rfl rfl) rfl ?_;refine st rfl rfl (eff_neq rfl rfl rfl) rfl ?_;refine st_nil ?_;refine aw_cond _ rfl (fun h1 => ?_) (fun h1 => ?_)
 ·replace h1 : (decide ((s1085 [(s1029 a0), (s1027 a1), (s1027 [a2])]) ≠ 0)) = true := h1;replace hR := condT hR h1;(try simp only [Bool.or_eq_true, Bool.and_eq_true, Bool.or_eq_false_iff, Bool.and_eq_false_iff, Bool.not_eq_true', Bool.not_eq_false', decide_eq_true_eq, decide_eq_false_iff_not] at h1);refine aw_seq ?_;refine aw_region [.p, .p, .p] ?_;refine st rfl rfl (eff_moveg rfl rfl) rfl ?_;refine st rfl rfl (eff_assigng rfl rfl) rfl ?_;refine st rfl rfl (eff_assigng rfl rfl) rfl ?_;refine st_nil ?_;refine aw_ret ?_;obtain rfl := Option.some.inj hR;exact resN rfl ⟨rv_g rfl, rv_g rfl, trivial⟩ (by simp)
 ·replace h1 : (decide ((s1085 [(s1029 a0), (s1027 a1), (s1027 [a2])]) ≠ 0)) = false := h1;replace hR := condF hR h1;(try simp only [Bool.or_eq_true, Bool.and_eq_true, Bool.or_eq_false_iff, Bool.and_eq_false_iff, Bool.not_eq_true', Bool.not_eq_false', decide_eq_true_eq, decide_eq_false_iff_not] at h1);have hb1 := hb h1;obtain ⟨hsl, hmo⟩ := room_in h1;refine aw_skip ?_;refine aw_seq ?_;refine aw_region [.w, .w, .p] ?_;refine st_w rfl rfl (eff_alloc 9 rfl z3 rfl rfl) rfl ?_;refine st_wn rfl rfl (eff_store (tv := .g (G.int 999)) rfl ty3 rfl rfl rfl rfl rfl) ?_;refine st rfl rfl (eff_assigng rfl rfl) rfl ?_;refine st_nil ?_;refine aw_seq ?_;refine aw_seq ?_;refine aw_region [.p, .p, .p] ?_;refine st rfl rfl (eff_moveg rfl rfl) rfl ?_;refine st rfl rfl (eff_lenM (f := S1063.c) (l := a0) rfl Tryz.underlying24 rfl) rfl ?_;refine st rfl rfl (eff_moveg rfl rfl) rfl ?_;refine st_nil ?_;refine aw_block ?_;refine aw_loop_g (γ := Nat × (List S1063) × Bool × Int) (fun g => ([(1, .g (G.sl 7 (List.map S1079.c a1))), (5, .g (G.ref [G.int a2.Moment, G.str a2.Kind, G.str a2.Terminal, G.int a2.Seats, G.int a2.Size, G.int a2.Noise, G.str a2.Name])), (9, .ptr 9 0), (10, .g (G.bool g.2.2.1)), (27, .g (G.sl 5 (List.map S1063.c a0))), (28, .g (G.int (List.length a0 : Int))), (29, .g (G.int ((g.1 : Nat) : Int)))], [(9, .box [.g (G.int g.2.2.2)])])) (fun g => a0.drop g.1 = g.2.1 ∧ s1045_l1 a1 a2 g.2.1 g.1 g.2.2.1 g.2.2.2 = some R) (fun g => List.length g.2.1) ⟨rfl, (0, a0, false, 999), ⟨rfl, rfl, rfl, rfl, rfl, rfl, rfl, trivial⟩, ⟨rfl, trivial⟩, rfl, ⟨rfl, hR⟩, trivial⟩ ?_
  ·rintro ⟨k4, t6, x1, x3⟩ ⟨hd, hR⟩;replace hd : a0.drop k4 = t6 := hd;replace hR : s1045_l1 a1 a2 t6 k4 x1 x3 = some R := hR;refine aw_seq ?_;refine aw_region [.p] ?_;refine st rfl rfl (eff_lss rfl rfl rfl) rfl ?_;refine st_nil ?_;refine len_sl (f := S1063.c) (l := a0) 27 rfl fun hlz1 => ?_;refine aw_seq ?_;refine aw_cond _ rfl (fun h2 => ?_) (fun h2 => ?_)
   ·replace h2 : (decide (((k4 : Nat) : Int) < (List.length a0 : Int))) = true := h2;obtain ⟨y5, t6, rfl, hx1, hd⟩ := drop_cons hd (decT h2);replace h2 := decT h2;rw [s1045_l1] at hR;(try dsimp only at hR);refine aw_skip ?_;refine aw_cut_g (γ := Bool × Int) (fun g => ([(1, .g (G.sl 7 (List.map S1079.c a1))), (5, .g (G.ref [G.int a2.Moment, G.str a2.Kind, G.str a2.Terminal, G.int a2.Seats, G.int a2.Size, G.int a2.Noise, G.str a2.Name])), (9, .ptr 9 0), (10, .g (G.bool g.1)), (27, .g (G.sl 5 (List.map S1063.c a0))), (28, .g (G.int (List.length a0 : Int))), (29, .g (G.int ((k4 : Nat) : Int)))], [(9, .box [.g (G.int g.2)])])) (fun g => s1045_j1 (fun k_ z0_ z1_ => s1045_l1 a1 a2 t6 k_ z0_ z1_) k4 g.1 g.2 = some R) ?_ ?_
    ·refine aw_block ?_;refine aw_seq ?_;refine aw_region [.p, .p, .w, .w] ?_;refine st rfl rfl (eff_ix (f := S1063.c) (l := a0) (a := y5) rfl Tryz.underlying24 ty1064 rfl rfl (Int.natCast_nonneg _) hx1) rfl ?_;refine st rfl rfl (eff_loadA rfl ty1064 rfl rfl rfl) rfl ?_;refine st_w rfl rfl (eff_alloc 12 rfl z1064 rfl rfl) rfl ?_;refine st_wn rfl rfl (eff_store (tv := .g (G.agg [G.str y5.Terminal, G.str y5.Kind, G.int y5.Length, G.int y5.Step, G.int y5.Most])) rfl ty1064 rfl rfl rfl rfl rfl) ?_;refine st_nil ?_;refine aw_seq ?_;refine aw_seq ?_;refine aw_region [.r, .p, .p, .p] ?_;refine st_r rfl rfl (eff_loadOA rfl ty1064 rfl rfl rfl rfl) rfl ?_;refine st rfl rfl (eff_loadA rfl ty1080 rfl rfl rfl) rfl ?_;refine st rfl rfl (eff_call rfl K1116 rfl (c1116 y5 a2) (ag_cons rfl (ag_cons rfl ag_nil))) rfl ?_;refine st rfl rfl (eff_not rfl rfl) rfl ?_;refine st_nil ?_;refine aw_cond _ rfl (fun h5 => ?_) (fun h5 => ?_)
     ·replace h5 : (!(s1116 y5 a2)) = true := h5;replace hR := condT hR h5;(try simp only [Bool.or_eq_true, Bool.and_eq_true, Bool.or_eq_false_iff, Bool.and_eq_false_iff, Bool.not_eq_true', Bool.not_eq_false', decide_eq_true_eq, decide_eq_false_iff_not] at h5);refine aw_exit ?_;exact ⟨rfl, (x1, x3), ⟨rfl, rfl, rfl, rfl, rfl, rfl, rfl, trivial⟩, ⟨rfl, trivial⟩, rfl, hR, trivial⟩
     ·replace h5 : (!(s1116 y5 a2)) = false := h5;replace hR := condF hR h5;(try simp only [Bool.or_eq_true, Bool.and_eq_true, Bool.or_eq_false_iff, Bool.and_eq_false_iff, Bool.not_eq_true', Bool.not_eq_false', decide_eq_true_eq, decide_eq_false_iff_not] at h5);refine aw_skip ?_;refine aw_seq ?_;refine aw_region [.p] ?_;refine st rfl rfl (eff_assigng rfl rfl) rfl ?_;refine st_nil ?_;refine aw_seq ?_;obtain ⟨r9, br9, hR⟩ := bindO_inv hR;have hlm := len1111 br9 hb1;have hyo := hsl _ (List.mem_of_getElem? hx1);refine aw_region [.r, .p, .p, .w, .w] ?_;refine st_r rfl rfl (eff_loadOA rfl ty1064 rfl rfl rfl rfl) rfl ?_;refine st rfl rfl (eff_moveg rfl rfl) rfl ?_;refine st rfl rfl (eff_call rfl K1111 rfl (c1111 y5 a1 (by first | assumption | omega | (simp [copyL_len]; done) | (simp [copyL_len]; omega)) br9) (ag_cons rfl (ag_cons rfl ag_nil))) rfl ?_;refine st_w rfl rfl (eff_alloc 13 rfl z1196 rfl rfl) rfl ?_;refine st_wn rfl rfl (eff_store (tv := .g (G.agg [G.sl 1 (List.map cInt r9.moments), G.sl 1 (List.map cInt r9.before)])) rfl ty1196 rfl rfl rfl rfl rfl) ?_;refine st_nil ?_;refine aw_seq ?_;refine aw_region [.r, .p, .p, .p] ?_;refine st_r rfl rfl (eff_loadOA rfl ty1064 rfl rfl rfl rfl) rfl ?_;refine st rfl rfl (eff_fieldAddr rfl fl1080_0 rfl) rfl ?_;refine st rfl rfl (eff_load rfl ty3 rfl) rfl ?_;refine st rfl rfl (eff_call rfl K1114 rfl (c1114 y5 a2.Moment) (ag_cons rfl (ag_cons rfl ag_nil))) rfl ?_;refine st_nil ?_;refine aw_block ?_;refine aw_rangeC (α := Int) (γ := Int) (enc := (Value.int .i64)) (l := [(1, .g (G.sl 7 (List.map S1079.c a1))), (5, .g (G.ref [G.int a2.Moment, G.str a2.Kind, G.str a2.Terminal, G.int a2.Seats, G.int a2.Size, G.int a2.Noise, G.str a2.Name])), (9, .ptr 9 0), (10, .g (G.bool true)), (12, .ptr 12 0), (13, .ptr 13 0), (27, .g (G.sl 5 (List.map S1063.c a0))), (28, .g (G.int (List.length a0 : Int))), (29, .g (G.int ((k4 : Nat) : Int))), (43, .g (G.fn (.func 156) [] [G.ref [G.int a2.Moment], G.ref [G.str y5.Terminal, G.str y5.Kind, G.int y5.Length, G.int y5.Step, G.int y5.Most]]))]) (winsOf y5 a2.Moment) (fun g => [(9, .box [.g (G.int g)]), (12, .box [.g (G.str y5.Terminal), .g (G.str y5.Kind), .g (G.int y5.Length), .g (G.int y5.Step), .g (G.int y5.Most)]), (13, .box [.g (G.sl 1 (List.map cInt r9.moments)), .g (G.sl 1 (List.map cInt r9.before))])]) (fun tl_ g => s1045_l2 (fun k_ z0_ z1_ => s1045_l1 a1 a2 t6 k_ z0_ z1_) k4 y5 r9 tl_ g = some R) x3 (fun g y11 => (upd 14 (.g (G.int y11)) (upd 44 (.g (.lit ((Value.int .i64) y11))) (lookT [(1, .g (G.sl 7 (List.map S1079.c a1))), (5, .g (G.ref [G.int a2.Moment, G.str a2.Kind, G.str a2.Terminal, G.int a2.Seats, G.int a2.Size, G.int a2.Noise, G.str a2.Name])), (9, .ptr 9 0), (10, .g (G.bool true)), (12, .ptr 12 0), (13, .ptr 13 0), (27, .g (G.sl 5 (List.map S1063.c a0))), (28, .g (G.int (List.length a0 : Int))), (29, .g (G.int ((k4 : Nat) : Int))), (43, .g (G.fn (.func 156) [] [G.ref [G.int a2.Moment], G.ref [G.str y5.Terminal, G.str y5.Kind, G.int y5.Length, G.int y5.Step, G.int y5.Most]]))])), [(9, .box [.g (G.int g)]), (12, .box [.g (G.str y5.Terminal), .g (G.str y5.Kind), .g (G.int y5.Length), .g (G.int y5.Step), .g (G.int y5.Most)]), (13, .box [.g (G.sl 1 (List.map cInt r9.moments)), .g (G.sl 1 (List.map cInt r9.before))])])) rfl ⟨rfl, rfl, rfl, rfl, rfl, rfl, rfl, rfl, rfl, rfl, trivial⟩ ⟨rfl, rfl, rfl, trivial⟩ rfl rfl K1156 (win_ok hyo hmo.m0 hmo.m1) (by exact hR) rfl (fun _ => rfl) (fun _ => rfl) ?_ (fun _ _ => rfl) ?_ ?_
      ·rintro y11 x10 lp_ w1_ M1_ x1_;refine aw_region [.p] ?_;refine st rfl rfl (eff_assigng rfl rfl) rfl ?_;refine st_nil ?_;exact ⟨rfl, rfl⟩
      ·rintro y11 t12 x10 hx2 hR lp_ w1_ M1_ x1_;replace hR : s1045_l2 (fun k_ z0_ z1_ => s1045_l1 a1 a2 t6 k_ z0_ z1_) k4 y5 r9 (y11 :: t12) x10 = some R := hR;rw [s1045_l2] at hR;(try dsimp only at hR);refine aw_block ?_;obtain ⟨r13, br13, hR⟩ := bindO_inv hR;refine aw_draw [.r, .p, .r, .r, .p, .p, .r, .p, .p, .p, .w] (by kernel_rfl) ?_;refine st_r rfl rfl (eff_loadO rfl ty3 rfl rfl rfl) rfl ?_;refine st rfl rfl (eff_fieldO rfl fl1064_4 rfl) rfl ?_;refine st_r rfl rfl (eff_loadO rfl ty3 rfl rfl rfl) rfl ?_;refine st_r rfl rfl (eff_loadOA rfl ty1196 rfl rfl rfl rfl) rfl ?_;refine st rfl rfl (eff_moveg rfl rfl) rfl ?_;refine st rfl rfl (eff_fieldO rfl fl1064_2 rfl) rfl ?_;refine st_r rfl rfl (eff_loadO rfl ty3 rfl rfl rfl) rfl ?_;refine st rfl rfl (eff_call rfl K1112 rfl (c1112 r9 y11 y5.Length (by first | assumption | omega | (simp [copyL_len]; done) | (simp [copyL_len]; omega)) br13) (ag_cons rfl (ag_cons rfl (ag_cons rfl ag_nil)))) rfl ?_;refine st rfl rfl (eff_subw rfl rfl rfl) rfl ?_;refine st rfl rfl (eff_min rfl rfl rfl) rfl ?_;refine st_wn rfl rfl (eff_store (tv := .g (G.int (min x10 (IntKind.i64.wrap (y5.Most - r13))))) rfl ty3 rfl rfl rfl rfl rfl) ?_;refine st_nil ?_;exact ⟨min x10 (IntKind.i64.wrap (y5.Most - r13)), hR, ⟨rfl, rfl, rfl, trivial⟩⟩
      ·rintro x10 hR;replace hR : s1045_l2 (fun k_ z0_ z1_ => s1045_l1 a1 a2 t6 k_ z0_ z1_) k4 y5 r9 [] x10 = some R := hR;rw [s1045_l2] at hR;(try dsimp only at hR);exact ⟨rfl, (true, x10), ⟨rfl, rfl, rfl, rfl, rfl, rfl, rfl, trivial⟩, ⟨rfl, trivial⟩, rfl, hR, trivial⟩
    ·rintro ⟨x7, x8⟩ hR;replace hR : s1045_j1 (fun k_ z0_ z1_ => s1045_l1 a1 a2 t6 k_ z0_ z1_) k4 x7 x8 = some R := hR;unfold s1045_j1 at hR;refine aw_region [.p, .p] ?_;refine st rfl rfl (eff_add rfl rfl rfl (by unfold I64; omega)) rfl ?_;refine st rfl rfl (eff_moveg rfl rfl) rfl ?_;refine st_nil ?_;exact ⟨rfl, (k4 + 1, t6, x7, x8), ⟨rfl, rfl, rfl, rfl, rfl, rfl, rfl, trivial⟩, ⟨rfl, trivial⟩, rfl, ⟨hd, hR⟩, by simp⟩
   ·replace h2 : (decide (((k4 : Nat) : Int) < (List.length a0 : Int))) = false := h2;obtain rfl := drop_nil hd (decF h2);rw [s1045_l1] at hR;refine aw_exit ?_;refine aw_seq ?_;refine aw_seq ?_;refine aw_region [.p, .p] ?_;refine st rfl rfl (eff_moveg rfl rfl) rfl ?_;refine st rfl rfl (eff_not rfl rfl) rfl ?_;refine st_nil ?_;refine aw_cond _ rfl (fun h4 => ?_) (fun h4 => ?_)
    ·replace h4 : (!x1) = true := h4;replace hR := condT hR h4;(try simp only [Bool.or_eq_true, Bool.and_eq_true, Bool.or_eq_false_iff, Bool.and_eq_false_iff, Bool.not_eq_true', Bool.not_eq_false', decide_eq_true_eq, decide_eq_false_iff_not] at h4);refine aw_seq ?_;refine aw_region [.p, .p] ?_;refine st rfl rfl (eff_assigng rfl rfl) rfl ?_;refine st rfl rfl (eff_assigng rfl rfl) rfl ?_;refine st_nil ?_;refine aw_ret ?_;obtain rfl := Option.some.inj hR;exact resN rfl ⟨rv_g rfl, rv_g rfl, trivial⟩ (by simp)
    ·replace h4 : (!x1) = false := h4;replace hR := condF hR h4;(try simp only [Bool.or_eq_true, Bool.and_eq_true, Bool.or_eq_false_iff, Bool.and_eq_false_iff, Bool.not_eq_true', Bool.not_eq_false', decide_eq_true_eq, decide_eq_false_iff_not] at h4);refine aw_skip ?_;refine aw_seq ?_;refine aw_region [.r, .p, .p, .p] ?_;refine st_r rfl rfl (eff_loadO rfl ty3 rfl rfl rfl) rfl ?_;refine st rfl rfl (eff_max rfl rfl rfl) rfl ?_;refine st rfl rfl (eff_assigng rfl rfl) rfl ?_;refine st rfl rfl (eff_assigng rfl rfl) rfl ?_;refine st_nil ?_;refine aw_ret ?_;obtain rfl := Option.some.inj hR;exact resN rfl ⟨rv_g rfl, rv_g rfl, trivial⟩ (by simp)
theorem ceil_0 {x s : Int} (hs : 1 ≤ s) (h : x % s = 0) : (x + s - 1) / s * s = x := by
 have e0 : x % s + s * (x / s) = x := Int.emod_add_mul_ediv x s;have h1 := (Int.ediv_emod_unique (a := x + s - 1) (b := s) (r := s - 1) (q := x / s) (by omega)).2 ⟨by omega, by omega, by omega⟩;rw [h1.1, Int.mul_comm]; omega
theorem ceil_1 {x s : Int} (hs : 1 ≤ s) (h : x % s ≠ 0) : (x + 1 + s - 1) / s = (x + s - 1) / s := by
 have e0 : x % s + s * (x / s) = x := Int.emod_add_mul_ediv x s;have e1 := Int.emod_nonneg x (show s ≠ 0 by omega);have e2 := Int.emod_lt_of_pos x (show 0 < s by omega)
 have e3 : s * (x / s + 1) = s * (x / s) + s := by rw [Int.mul_add, Int.mul_one]
 have h1 := (Int.ediv_emod_unique (a := x + s - 1) (b := s) (r := x % s - 1) (q := x / s + 1) (by omega)).2 ⟨by rw [e3]; omega, by omega, by omega⟩;have h2 := (Int.ediv_emod_unique (a := x + 1 + s - 1) (b := s) (r := x % s) (q := x / s + 1) (by omega)).2 ⟨by rw [e3]; omega, by omega, by omega⟩;rw [h1.1, h2.1]
theorem fw_loop (a : S1063) (hs : 1 ≤ a.Step) : ∀ (k : Nat) (x : Int), 0 ≤ x → (a.Step - 1 - (x - 1) % a.Step).toNat < k → s1115_l1 a k x = some ((x + a.Step - 1) / a.Step * a.Step)
 | 0, x, _, h => by omega
 | k + 1, x, h0, h => by
  have hf := fw_step (x := x) (s := a.Step) h0 hs;rw [s1115_l1]
  by_cases hc : x % a.Step = 0
  ·rw [hf.2.1, decide_eq_false (fun hn => hn hc), cond_false, ceil_0 hs hc]
  ·rw [hf.2.1, decide_eq_true hc, cond_true, fw_loop a hs k (x + 1) (by omega) (by have := hf.1; have := hf.2.2.1 hc; omega), ceil_1 hs hc]
theorem fw_ok {a : S1063} {m : Int} (h : SeatOk a) (h0 : 0 ≤ m) (h1 : m ≤ 143999999) : s1115 a m = some (win0 a.Length a.Step m) := by
 have h2 := h.l0; have h3 := h.l1; have h4 := h.s0;unfold s1115;rw [wrap_i64 (n := m - a.Length) (by unfold I64; omega), wrap_i64 (n := m - a.Length + 1) (by unfold I64; omega), fw_loop a h4 _ _ (by omega) (by omega)]
 rfl
theorem win0_rng {a : S1063} {m : Int} (h : SeatOk a) (h0 : 0 ≤ m) (h1 : m ≤ 143999999) : 0 ≤ win0 a.Length a.Step m ∧ win0 a.Length a.Step m ≤ 145000000 ∧ m - a.Length + 1 ≤ win0 a.Length a.Step m := by
 have h2 := h.l0; have h3 := h.l1; have h4 := h.s0; have h5 := h.s1;unfold win0;have e0 : (max 0 (m - a.Length + 1) + a.Step - 1) % a.Step + a.Step * ((max 0 (m - a.Length + 1) + a.Step - 1) / a.Step) = max 0 (m - a.Length + 1) + a.Step - 1 := Int.emod_add_mul_ediv _ _;have e1 := Int.emod_nonneg (max 0 (m - a.Length + 1) + a.Step - 1) (show a.Step ≠ 0 by omega);have e2 := Int.emod_lt_of_pos (max 0 (m - a.Length + 1) + a.Step - 1) (show 0 < a.Step by omega);rw [Int.mul_comm];generalize a.Step * ((max 0 (m - a.Length + 1) + a.Step - 1) / a.Step) = q at *;generalize (max 0 (m - a.Length + 1) + a.Step - 1) % a.Step = r at *
 omega
theorem fw_rng {a : S1063} {m r : Int} (hr : s1115 a m = some r) (h : SeatOk a) (h0 : 0 ≤ m) (h1 : m ≤ 143999999) : 0 ≤ r ∧ r ≤ 145000000 := by
 rw [fw_ok h h0 h1] at hr; cases hr;have := win0_rng h h0 h1; omega
end Go.Sim
set_option maxRecDepth 10000
namespace Go.Sim
open Go.Proofs
def s1046_j1 (rec1 : Nat → Int → Bool → Option (Int × Bool)) (k4 : Nat) (x7 : Int) (x8 : Bool) : Option (Int × Bool) :=
 rec1 (k4 + 1) x7 x8
def s1046_l2 (rec1 : Nat → Int → Bool → Option (Int × Bool)) (a1 : List S1079) (a2 : S1079) (k4 : Nat) (y5 : S1063) : Nat → Int → Int → Option (Int × Bool)
 | 0, _, _ => none
 | k12 + 1, x10, x11 => (bif decide (x11 ≤ a2.Moment) then s1046_l2 rec1 a1 a2 k4 y5 k12 (min x10 (IntKind.i64.wrap (y5.Most - (s1042 y5 a1 x11)))) (x11 + y5.Step) else s1046_j1 rec1 k4 x10 true)
def s1046_l1 (a1 : List S1079) (a2 : S1079) : List S1063 → Nat → Int → Bool → Option (Int × Bool)
 | [], k4, x1, x2 => some (max 0 x1, x2)
 | y5 :: t6, k4, x1, x2 => (bif !(s1113 y5 a2) then s1046_j1 (fun k_ z0_ z1_ => s1046_l1 a1 a2 t6 k_ z0_ z1_) k4 x1 x2 else bindO (s1115 y5 a2.Moment) fun r9 => s1046_l2 (fun k_ z0_ z1_ => s1046_l1 a1 a2 t6 k_ z0_ z1_) a1 a2 k4 y5 (((a2.Moment + 1 - r9).toNat) + 1) x1 r9)
def s1046 (a0 : List S1063) (a1 : List S1079) (a2 : S1079) : Option (Int × Bool) :=
 s1046_l1 a1 a2 a0 0 999 false
theorem c1046 {g : List (Nat × List Value)} (a0 : List S1063) (a1 : List S1079) (a2 : S1079) {R : Int × Bool}  (hsl : ∀ x ∈ a0, SeatOk x) (hmo : MovOk a2) (hR : s1046 a0 a1 a2 = some R) : Con (EG g) 46 [G.sl 5 (List.map S1063.c a0), G.sl 7 (List.map S1079.c a1), G.agg [G.int a2.Moment, G.str a2.Kind, G.str a2.Terminal, G.int a2.Seats, G.int a2.Size, G.int a2.Noise, G.str a2.Name]] (G.tup [G.int R.1, G.bool R.2]) := by
 unfold s1046 at hR;refine con_of_aw Tryz.func46 rfl rfl fun w0 M0 => ?_;refine len_sl (f := S1063.c) (l := a0) 0 rfl fun hla0 => ?_;refine len_sl (f := S1079.c) (l := a1) 1 rfl fun hla1 => ?_;refine aw_seq ?_;refine aw_region [.p, .p, .p] ?_;refine st rfl rfl (eff_box rfl rfl) rfl ?_;refine st rfl rfl (eff_assigng rfl rfl) rfl ?_;refine st rfl rfl (eff_assigng rfl rfl) rfl ?_;refine st_nil ?_;refine aw_seq ?_;refine aw_region [.p, .p] ?_;refine st rfl rfl (eff_assigng rfl rfl) rfl ?_;refine st rfl rfl (eff_assigng rfl rfl) rfl ?_;refine st_nil ?_;refine aw_seq ?_;refine aw_seq ?_;refine aw_region [.p] ?_;refine st rfl rfl (eff_assigng rfl rfl) rfl ?_;refine st_nil ?_;refine aw_block ?_;refine aw_loop_g (γ := Nat × (List S1063) × Int × Bool) (fun g => ([(0, .g (G.sl 5 (List.map S1063.c a0))), (1, .g (G.sl 7 (List.map S1079.c a1))), (5, .g (G.ref [G.int a2.Moment, G.str a2.Kind, G.str a2.Terminal, G.int a2.Seats, G.int a2.Size, G.int a2.Noise, G.str a2.Name])), (8, .g (G.int g.2.2.1)), (9, .g (G.bool g.2.2.2)), (10, .g (G.int ((g.1 : Nat) : Int)))], [])) (fun g => a0.drop g.1 = g.2.1 ∧ s1046_l1 a1 a2 g.2.1 g.1 g.2.2.1 g.2.2.2 = some R) (fun g => List.length g.2.1) ⟨rfl, (0, a0, 999, false), ⟨rfl, rfl, rfl, rfl, rfl, rfl, trivial⟩, trivial, rfl, ⟨rfl, hR⟩, trivial⟩ ?_
 ·rintro ⟨k4, t6, x1, x2⟩ ⟨hd, hR⟩;replace hd : a0.drop k4 = t6 := hd;replace hR : s1046_l1 a1 a2 t6 k4 x1 x2 = some R := hR;refine aw_seq ?_;refine aw_seq ?_;refine aw_region [.p, .p, .p, .p] ?_;refine st rfl rfl (eff_moveg rfl rfl) rfl ?_;refine st rfl rfl (eff_moveg rfl rfl) rfl ?_;refine st rfl rfl (eff_lenM (f := S1063.c) (l := a0) rfl Tryz.underlying37 rfl) rfl ?_;refine st rfl rfl (eff_lss rfl rfl rfl) rfl ?_;refine st_nil ?_;refine len_sl (f := S1063.c) (l := a0) 0 rfl fun hlz1 => ?_;refine aw_cond _ rfl (fun h1 => ?_) (fun h1 => ?_)
  ·replace h1 : (decide (((k4 : Nat) : Int) < (List.length a0 : Int))) = true := h1;obtain ⟨y5, t6, rfl, hx1, hd⟩ := drop_cons hd (decT h1);replace h1 := decT h1;rw [s1046_l1] at hR;(try dsimp only at hR);refine aw_skip ?_;refine aw_cut_g (γ := Int × Bool) (fun g => ([(0, .g (G.sl 5 (List.map S1063.c a0))), (1, .g (G.sl 7 (List.map S1079.c a1))), (5, .g (G.ref [G.int a2.Moment, G.str a2.Kind, G.str a2.Terminal, G.int a2.Seats, G.int a2.Size, G.int a2.Noise, G.str a2.Name])), (8, .g (G.int g.1)), (9, .g (G.bool g.2)), (10, .g (G.int ((k4 : Nat) : Int)))], [])) (fun g => s1046_j1 (fun k_ z0_ z1_ => s1046_l1 a1 a2 t6 k_ z0_ z1_) k4 g.1 g.2 = some R) ?_ ?_
   ·refine aw_block ?_;refine aw_seq ?_;refine aw_seq ?_;have hyo := hsl _ (List.mem_of_getElem? hx1);have hy1 := hyo.l0;have hy2 := hyo.l1;have hy3 := hyo.s0;have hy4 := hyo.s1;have hm0 := hmo.m0;have hm1 := hmo.m1;refine aw_draw [.p, .p, .p, .p, .p, .p, .p] (by kernel_rfl) ?_;refine st rfl rfl (eff_moveg rfl rfl) rfl ?_;refine st rfl rfl (eff_moveg rfl rfl) rfl ?_;refine st rfl rfl (eff_ix (f := S1063.c) (l := a0) (a := y5) rfl Tryz.underlying37 ty1070 rfl rfl (Int.natCast_nonneg _) hx1) rfl ?_;refine st rfl rfl (eff_loadA rfl ty1070 rfl rfl rfl) rfl ?_;refine st rfl rfl (eff_loadA rfl ty1080 rfl rfl rfl) rfl ?_;refine st rfl rfl (eff_call rfl K1113 rfl (c1113 y5 a2) (ag_cons rfl (ag_cons rfl ag_nil))) rfl ?_;refine st rfl rfl (eff_not rfl rfl) rfl ?_;refine st_nil ?_;refine aw_cond _ rfl (fun h3 => ?_) (fun h3 => ?_)
    ·replace h3 : (!(s1113 y5 a2)) = true := h3;replace hR := condT hR h3;(try simp only [Bool.or_eq_true, Bool.and_eq_true, Bool.or_eq_false_iff, Bool.and_eq_false_iff, Bool.not_eq_true', Bool.not_eq_false', decide_eq_true_eq, decide_eq_false_iff_not] at h3);refine aw_exit ?_;exact ⟨rfl, (x1, x2), ⟨rfl, rfl, rfl, rfl, rfl, rfl, trivial⟩, trivial, rfl, hR, trivial⟩
    ·replace h3 : (!(s1113 y5 a2)) = false := h3;replace hR := condF hR h3;(try simp only [Bool.or_eq_true, Bool.and_eq_true, Bool.or_eq_false_iff, Bool.and_eq_false_iff, Bool.not_eq_true', Bool.not_eq_false', decide_eq_true_eq, decide_eq_false_iff_not] at h3);refine aw_skip ?_;refine aw_seq ?_;refine aw_region [.p] ?_;refine st rfl rfl (eff_assigng rfl rfl) rfl ?_;refine st_nil ?_;refine aw_seq ?_;obtain ⟨r9, br9, hR⟩ := bindO_inv hR;refine aw_draw [.p, .p, .p, .p, .p, .p, .p, .p] (by kernel_rfl) ?_;refine st rfl rfl (eff_moveg rfl rfl) rfl ?_;refine st rfl rfl (eff_moveg rfl rfl) rfl ?_;refine st rfl rfl (eff_ix (f := S1063.c) (l := a0) (a := y5) rfl Tryz.underlying37 ty1070 rfl rfl (Int.natCast_nonneg _) hx1) rfl ?_;refine st rfl rfl (eff_loadA rfl ty1070 rfl rfl rfl) rfl ?_;refine st rfl rfl (eff_fieldAddr rfl fl1080_0 rfl) rfl ?_;refine st rfl rfl (eff_load rfl ty3 rfl) rfl ?_;refine st rfl rfl (eff_call rfl K1115 rfl (c1115 y5 a2.Moment (by first | assumption | omega | (simp [copyL_len]; done) | (simp [copyL_len]; omega)) (by first | assumption | omega | (simp [copyL_len]; done) | (simp [copyL_len]; omega)) (by first | assumption | omega | (simp [copyL_len]; done) | (simp [copyL_len]; omega)) (by first | assumption | omega | (simp [copyL_len]; done) | (simp [copyL_len]; omega)) (by first | assumption | omega | (simp [copyL_len]; done) | (simp [copyL_len]; omega)) (by first | assumption | omega | (simp [copyL_len]; done) | (simp [copyL_len]; omega)) br9) (ag_cons rfl (ag_cons rfl ag_nil))) rfl ?_;refine st rfl rfl (eff_assigng rfl rfl) rfl ?_;refine st_nil ?_;have hfr := fw_rng br9 hyo hm0 hm1;refine aw_block ?_;refine aw_loop_g (γ := Nat × Int × Int) (fun g => ([(0, .g (G.sl 5 (List.map S1063.c a0))), (1, .g (G.sl 7 (List.map S1079.c a1))), (5, .g (G.ref [G.int a2.Moment, G.str a2.Kind, G.str a2.Terminal, G.int a2.Seats, G.int a2.Size, G.int a2.Noise, G.str a2.Name])), (8, .g (G.int g.2.1)), (9, .g (G.bool true)), (10, .g (G.int ((k4 : Nat) : Int))), (11, .g (G.int g.2.2))], [])) (fun g => (a2.Moment + 1 - g.2.2).toNat < g.1 ∧ 0 ≤ g.2.2 ∧ g.2.2 ≤ 145001440 ∧ s1046_l2 (fun k_ z0_ z1_ => s1046_l1 a1 a2 t6 k_ z0_ z1_) a1 a2 k4 y5 g.1 g.2.1 g.2.2 = some R) (fun g => g.1) ⟨rfl, (((a2.Moment + 1 - r9).toNat) + 1, x1, r9), ⟨rfl, rfl, rfl, rfl, rfl, rfl, rfl, trivial⟩, trivial, rfl, ⟨Nat.lt_succ_self _, (by first | omega | (dsimp only; omega) | simp), (by first | omega | (dsimp only; omega) | simp), hR⟩, trivial⟩ ?_
     ·rintro ⟨k12, x10, x11⟩ ⟨hk2, iv2_0, iv2_1, hR⟩;replace hk2 : (a2.Moment + 1 - x11).toNat < k12 := hk2;replace hR : s1046_l2 (fun k_ z0_ z1_ => s1046_l1 a1 a2 t6 k_ z0_ z1_) a1 a2 k4 y5 k12 x10 x11 = some R := hR;replace iv2_0 : 0 ≤ x11 := iv2_0;replace iv2_1 : x11 ≤ 145001440 := iv2_1;obtain ⟨k12, rfl⟩ : ∃ m, k12 = m + 1 := ⟨k12 - 1, by omega⟩;rw [s1046_l2] at hR;(try dsimp only at hR);refine aw_seq ?_;refine aw_seq ?_;refine aw_region [.p, .p, .p, .p] ?_;refine st rfl rfl (eff_moveg rfl rfl) rfl ?_;refine st rfl rfl (eff_fieldAddr rfl fl1080_0 rfl) rfl ?_;refine st rfl rfl (eff_load rfl ty3 rfl) rfl ?_;refine st rfl rfl (eff_leq rfl rfl rfl) rfl ?_;refine st_nil ?_;refine aw_cond _ rfl (fun h4 => ?_) (fun h4 => ?_)
      ·replace h4 : (decide (x11 ≤ a2.Moment)) = true := h4;replace hR := condT hR h4;(try simp only [Bool.or_eq_true, Bool.and_eq_true, Bool.or_eq_false_iff, Bool.and_eq_false_iff, Bool.not_eq_true', Bool.not_eq_false', decide_eq_true_eq, decide_eq_false_iff_not] at h4);refine aw_skip ?_;refine aw_seq ?_;refine aw_block ?_;refine aw_draw [.p, .p, .p, .p, .p, .p, .p, .p, .p, .p, .p, .p, .p, .p, .p, .p] (by kernel_rfl) ?_;refine st rfl rfl (eff_moveg rfl rfl) rfl ?_;refine st rfl rfl (eff_moveg rfl rfl) rfl ?_;refine st rfl rfl (eff_moveg rfl rfl) rfl ?_;refine st rfl rfl (eff_ix (f := S1063.c) (l := a0) (a := y5) rfl Tryz.underlying37 ty1070 rfl rfl (Int.natCast_nonneg _) hx1) rfl ?_;refine st rfl rfl (eff_fieldAddr rfl fl1070_4 rfl) rfl ?_;refine st rfl rfl (eff_load rfl ty3 rfl) rfl ?_;refine st rfl rfl (eff_moveg rfl rfl) rfl ?_;refine st rfl rfl (eff_moveg rfl rfl) rfl ?_;refine st rfl rfl (eff_ix (f := S1063.c) (l := a0) (a := y5) rfl Tryz.underlying37 ty1070 rfl rfl (Int.natCast_nonneg _) hx1) rfl ?_;refine st rfl rfl (eff_loadA rfl ty1070 rfl rfl rfl) rfl ?_;refine st rfl rfl (eff_moveg rfl rfl) rfl ?_;refine st rfl rfl (eff_moveg rfl rfl) rfl ?_;refine st rfl rfl (eff_call rfl K1042 rfl (c1042 y5 a1 x11) (ag_cons rfl (ag_cons rfl (ag_cons rfl ag_nil)))) rfl ?_;refine st rfl rfl (eff_subw rfl rfl rfl) rfl ?_;refine st rfl rfl (eff_min rfl rfl rfl) rfl ?_;refine st rfl rfl (eff_assigng rfl rfl) rfl ?_;refine st_nil ?_;refine aw_region [.p, .p, .p, .p, .p, .p, .p, .p] ?_;refine st rfl rfl (eff_moveg rfl rfl) rfl ?_;refine st rfl rfl (eff_moveg rfl rfl) rfl ?_;refine st rfl rfl (eff_moveg rfl rfl) rfl ?_;refine st rfl rfl (eff_ix (f := S1063.c) (l := a0) (a := y5) rfl Tryz.underlying37 ty1070 rfl rfl (Int.natCast_nonneg _) hx1) rfl ?_;refine st rfl rfl (eff_fieldAddr rfl fl1070_3 rfl) rfl ?_;refine st rfl rfl (eff_load rfl ty3 rfl) rfl ?_;refine st rfl rfl (eff_add rfl rfl rfl (by unfold I64; (try dsimp only); omega)) rfl ?_;refine st rfl rfl (eff_assigng rfl rfl) rfl ?_;refine st_nil ?_;exact ⟨rfl, (k12, min x10 (IntKind.i64.wrap (y5.Most - (s1042 y5 a1 x11))), x11 + y5.Step), ⟨rfl, rfl, rfl, rfl, rfl, rfl, rfl, trivial⟩, trivial, rfl, ⟨(by first | omega | (dsimp only; omega) | (simp at *; omega)), (by first | omega | (dsimp only; omega) | (simp at *; omega)), (by first | omega | (dsimp only; omega) | (simp at *; omega)), hR⟩, by simp⟩
      ·replace h4 : (decide (x11 ≤ a2.Moment)) = false := h4;replace hR := condF hR h4;(try simp only [Bool.or_eq_true, Bool.and_eq_true, Bool.or_eq_false_iff, Bool.and_eq_false_iff, Bool.not_eq_true', Bool.not_eq_false', decide_eq_true_eq, decide_eq_false_iff_not] at h4);refine aw_exit ?_;exact ⟨rfl, (x10, true), ⟨rfl, rfl, rfl, rfl, rfl, rfl, trivial⟩, trivial, rfl, hR, trivial⟩
   ·rintro ⟨x7, x8⟩ hR;replace hR : s1046_j1 (fun k_ z0_ z1_ => s1046_l1 a1 a2 t6 k_ z0_ z1_) k4 x7 x8 = some R := hR;unfold s1046_j1 at hR;refine aw_region [.p, .p, .p] ?_;refine st rfl rfl (eff_moveg rfl rfl) rfl ?_;refine st rfl rfl (eff_add rfl rfl rfl (by unfold I64; omega)) rfl ?_;refine st rfl rfl (eff_assigng rfl rfl) rfl ?_;refine st_nil ?_;exact ⟨rfl, (k4 + 1, t6, x7, x8), ⟨rfl, rfl, rfl, rfl, rfl, rfl, trivial⟩, trivial, rfl, ⟨hd, hR⟩, by simp⟩
  ·replace h1 : (decide (((k4 : Nat) : Int) < (List.length a0 : Int))) = false := h1;obtain rfl := drop_nil hd (decF h1);rw [s1046_l1] at hR;refine aw_exit ?_;refine aw_seq ?_;refine aw_region [.p, .p, .p, .p, .p] ?_;refine st rfl rfl (eff_moveg rfl rfl) rfl ?_;refine st rfl rfl (eff_max rfl rfl rfl) rfl ?_;refine st rfl rfl (eff_moveg rfl rfl) rfl ?_;refine st rfl rfl (eff_assigng rfl rfl) rfl ?_;refine st rfl rfl (eff_assigng rfl rfl) rfl ?_;refine st_nil ?_;refine aw_ret ?_;obtain rfl := Option.some.inj hR;exact resN rfl ⟨rv_g rfl, rv_g rfl, trivial⟩ (by simp)
theorem bl_tr : ∀ x y z : List UInt8, Op.bytesLess x y = true → Op.bytesLess y z = true → Op.bytesLess x z = true
 | _, _, [], _, h => by cases ‹List UInt8› <;> simp [Op.bytesLess] at h
 | _, [], _ :: _, h, _ => by cases ‹List UInt8› <;> simp [Op.bytesLess] at h
 | [], _ :: _, _ :: _, _, _ => rfl
 | a :: x, b :: y, c :: z, h, k => by
  simp only [Op.bytesLess, Bool.or_eq_true, decide_eq_true_eq, Bool.and_eq_true, beq_iff_eq] at h k ⊢
  rcases h with h | ⟨rfl, h⟩
  ·rcases k with k | ⟨rfl, k⟩
   ·exact .inl (UInt8.lt_trans h k)
   ·exact .inl h
  ·rcases k with k | ⟨rfl, k⟩
   ·exact .inl k
   ·exact .inr ⟨rfl, bl_tr x y z h k⟩
theorem bl_tri : ∀ x y : List UInt8, Op.bytesLess x y = false → Op.bytesLess y x = false → x = y
 | [], [], _, _ => rfl
 | [], _ :: _, h, _ => by simp [Op.bytesLess] at h
 | _ :: _, [], _, h => by simp [Op.bytesLess] at h
 | a :: x, b :: y, h, k => by
  simp only [Op.bytesLess, Bool.or_eq_false_iff, decide_eq_false_iff_not, Bool.and_eq_false_iff, beq_eq_false_iff_ne] at h k;have e : a = b := UInt8.le_antisymm (UInt8.not_lt.1 k.1) (UInt8.not_lt.1 h.1);subst e;rw [bl_tri x y (h.2.resolve_left fun g => g rfl) (k.2.resolve_left fun g => g rfl)]
theorem sl_tr {a b c : ByteArray} (h : strLt a b = true) (k : strLt b c = true) : strLt a c = true := bl_tr _ _ _ h k
theorem sl_tri {a b : ByteArray} (h : strLt a b = false) (k : strLt b a = false) : a = b := by
 have := bl_tri _ _ h k;have e := toList_inj (s := a) (s' := b);rw [this] at e
 simpa using e.symm
def RelR (a b : S1154) : Prop := strLt b.Name a.Name = false
theorem RelR.tr (a b c : S1154) (h : RelR a b) (k : RelR b c) : RelR a c := by
 unfold RelR at *
 cases hc : strLt c.Name a.Name
 ·rfl
 ·cases hb : strLt b.Name c.Name
  ·have := sl_tri hb k;rw [this] at h; rw [h] at hc; cases hc
  ·rw [sl_tr hb hc] at h; cases h
theorem short_movs {l : List S1079} {n : Int} (h : s1020 l n = true) (hn : n ≤ 256) (hl : l.length ≤ 256) : (l.length : Int) ≤ n := by
 unfold s1020 at h
 cases hc : ((decide (n < (List.length l : Int))) && (decide ((List.length l : Int) ≤ 256))) || (decide (258 < (List.length l : Int)))
 ·simp at hc; omega
 ·rw [hc] at h; cases h
theorem short6 {a0 : S1026} {a2 : S1079} {P Q : Prop} (h : (P ∧ s1020 a0.Movements 10 = true) ∧ Q) : ¬ s1085 [(s1029 a0.Limits), (s1027 a0.Movements), (s1027 [a2])] ≠ 0 → a0.Movements.length ≤ 12 := by
 intro h1;have h1 := Decidable.not_not.1 h1;rw [s1085_eq, s89_zero] at h1;have h2 := movs_ok (l := a0.Movements) (h1 (s1027 a0.Movements) (by simp));have := short_movs h.1.2 (by decide) h2.1
 omega
theorem room6 {a0 : S1026} {a1 : S1079} (h : s1040 [(s1030 (s1022 a0.Limits)), (s1028 a0.Movements), (s1028 [a1])] = 0) : (∀ x ∈ s1022 a0.Limits, SeatOk x) ∧ MovOk a1 := by
 rw [s1040_eq, seats_eq, movs_eq, movs_eq, s89_zero] at h;exact ⟨(seats_ok (h (s1029 (s1022 a0.Limits)) (by simp))).2, (movs_ok (l := [a1]) (h (s1027 [a1]) (by simp))).2 a1 (by simp)⟩
end Go.Sim
set_option maxRecDepth 10000
namespace Go.Sim
open Go.Proofs
def s1006_j1 (r1 : Int × Int) (x2 : Int) (x3 : Int) : Option Bool :=
 (bif decide (x2 ≠ 0) then some ((decide (r1.1 = 0)) && (decide (r1.2 = x2))) else some ((decide (r1.2 = 0)) && (decide (r1.1 = x3))))
noncomputable def s1006 (a0 : S1026) (a1 : S1079) : Option Bool :=
 (bif (((!s1015) || (!(s1021 (s1022 a0.Limits) 4))) || (!(s1020 a0.Movements 10))) || (!(s1020 [a1] 1)) then some s1015 else bindO (s1045 a0.Limits a0.Movements a1) fun r1 => (bif decide ((s1040 [(s1030 (s1022 a0.Limits)), (s1028 a0.Movements), (s1028 [a1])]) = 0) then bindO (s1046 (s1022 a0.Limits) a0.Movements a1) fun r4 => s1006_j1 r1 (s1038 (!r4.2) 7) r4.1 else s1006_j1 r1 (s1040 [(s1030 (s1022 a0.Limits)), (s1028 a0.Movements), (s1028 [a1])]) 0))
set_option maxHeartbeats 8000000 in
theorem c1006 (a0 : S1026) (a1 : S1079) {R : Bool}  (hb0 : a0.Limits.length * 56 ≤ 140737488351232) (hR : s1006 a0 a1 = some R) : Con (EG glT) 6 [G.agg [G.sl 5 (List.map S1063.c a0.Limits), G.sl 7 (List.map S1079.c a0.Movements)], G.agg [G.int a1.Moment, G.str a1.Kind, G.str a1.Terminal, G.int a1.Seats, G.int a1.Size, G.int a1.Noise, G.str a1.Name]] (G.bool R) := by
 unfold s1006 at hR;refine con_of_aw Tryz.func6 rfl rfl fun w0 M0 => ?_;refine aw_seq ?_;refine aw_region [.p, .p, .p] ?_;refine st rfl rfl (eff_box rfl rfl) rfl ?_;refine st rfl rfl (eff_box rfl rfl) rfl ?_;refine st rfl rfl (eff_assigng rfl rfl) rfl ?_;refine st_nil ?_;refine aw_seq ?_;refine aw_region [.p, .p, .p, .p] ?_;refine st rfl rfl (eff_fieldAddr rfl fl1027_0 rfl) rfl ?_;refine st rfl rfl (eff_load rfl ty1024 rfl) rfl ?_;refine st rfl rfl (eff_call rfl K1022 rfl (c1022 a0.Limits (by first | assumption | omega | (simp [copyL_len]; done) | (simp [copyL_len]; omega))) (ag_cons rfl ag_nil)) rfl ?_;refine st rfl rfl (eff_assigng rfl rfl) rfl ?_;refine st_nil ?_;refine aw_seq ?_;refine aw_seq ?_;refine aw_region [.p, .p, .p, .p, .p, .p, .p, .p, .p, .p, .p, .p, .p, .p, .p, .p, .p, .p, .p] ?_;refine st rfl rfl (eff_call rfl K1015 rfl (c1015) ag_nil) rfl ?_;refine st rfl rfl (eff_not rfl rfl) rfl ?_;refine st rfl rfl (eff_moveg rfl rfl) rfl ?_;refine st_g rfl rfl rfl (gb_bool _ _) (fun h => eff_moveg rfl rfl) rfl ?_;refine st_g rfl rfl rfl (gb_bool _ _) (fun h => eff_call rfl K1021 rfl (c1021 (s1022 a0.Limits) 4) (ag_cons (gd h rfl) (ag_cons rfl ag_nil))) rfl ?_;refine st_g rfl rfl rfl (gb_bool _ _) (fun h => eff_not rfl (gd h rfl)) rfl ?_;refine st rfl rfl (eff_or rfl rfl rfl rfl) rfl ?_;refine st rfl rfl (eff_moveg rfl rfl) rfl ?_;refine st_g rfl rfl rfl (gb_bool _ _) (fun h => eff_fieldAddr rfl fl1027_1 rfl) rfl ?_;refine st_g rfl rfl rfl (gb_bool _ _) (fun h => eff_load rfl ty1025 (gd h rfl)) rfl ?_;refine st_g rfl rfl rfl (gb_bool _ _) (fun h => eff_call rfl K1020 rfl (c1020 a0.Movements 10) (ag_cons (gd h rfl) (ag_cons rfl ag_nil))) rfl ?_;refine st_g rfl rfl rfl (gb_bool _ _) (fun h => eff_not rfl (gd h rfl)) rfl ?_;refine st rfl rfl (eff_or rfl rfl rfl rfl) rfl ?_;refine st rfl rfl (eff_moveg rfl rfl) rfl ?_;refine st_g rfl rfl rfl (gb_bool _ _) (fun h => eff_loadA rfl ty1080 rfl rfl rfl) rfl ?_;refine st_g rfl rfl rfl (gb_bool _ _) (fun h => eff_buildSlice rfl Tryz.underlying25 ty1080 z1080 rfl (ps_cons (gd h rfl) ps_nil) rfl (by simp [S1079.c]) (by decide)) rfl ?_;refine st_g rfl rfl rfl (gb_bool _ _) (fun h => eff_call rfl K1020 rfl (c1020 [a1] 1) (ag_cons (gd h rfl) (ag_cons rfl ag_nil))) rfl ?_;refine st_g rfl rfl rfl (gb_bool _ _) (fun h => eff_not rfl (gd h rfl)) rfl ?_;refine st rfl rfl (eff_or rfl rfl rfl rfl) rfl ?_;refine st_nil ?_;refine aw_cond _ rfl (fun h1 => ?_) (fun h1 => ?_)
 ·replace h1 : ((((!s1015) || (!(s1021 (s1022 a0.Limits) 4))) || (!(s1020 a0.Movements 10))) || (!(s1020 [a1] 1))) = true := h1;replace hR := condT hR h1;(try simp only [Bool.or_eq_true, Bool.and_eq_true, Bool.or_eq_false_iff, Bool.and_eq_false_iff, Bool.not_eq_true', Bool.not_eq_false', decide_eq_true_eq, decide_eq_false_iff_not] at h1);refine aw_seq ?_;refine aw_region [.p, .p] ?_;refine st rfl rfl (eff_call rfl K1015 rfl (c1015) ag_nil) rfl ?_;refine st rfl rfl (eff_assigng rfl rfl) rfl ?_;refine st_nil ?_;refine aw_ret ?_;exact res_e (res_c rfl (rv_g rfl)) (congrArg (fun R_ => G.bool R_) (Option.some.inj hR))
 ·replace h1 : ((((!s1015) || (!(s1021 (s1022 a0.Limits) 4))) || (!(s1020 a0.Movements 10))) || (!(s1020 [a1] 1))) = false := h1;replace hR := condF hR h1;(try simp only [Bool.or_eq_true, Bool.and_eq_true, Bool.or_eq_false_iff, Bool.and_eq_false_iff, Bool.not_eq_true', Bool.not_eq_false', decide_eq_true_eq, decide_eq_false_iff_not] at h1);have hs6 := short6 (a0 := a0) (a2 := a1) h1;refine aw_skip ?_;refine aw_seq ?_;refine Exists.elim (bindO_inv hR) (fun r1 hq_ => ?_);have br1 := hq_.1;replace hR := hq_.2;clear hq_;refine aw_region [.p, .p, .p, .p, .p, .p, .p, .p, .p, .p, .p] ?_;refine st rfl rfl (eff_fieldAddr rfl fl1027_0 rfl) rfl ?_;refine st rfl rfl (eff_load rfl ty1024 rfl) rfl ?_;refine st rfl rfl (eff_fieldAddr rfl fl1027_1 rfl) rfl ?_;refine st rfl rfl (eff_load rfl ty1025 rfl) rfl ?_;refine st rfl rfl (eff_loadA rfl ty1080 rfl rfl rfl) rfl ?_;refine st rfl rfl (eff_call rfl K1045 rfl (c1045 a0.Limits a0.Movements a1 (by first | assumption | omega | (simp [copyL_len]; done) | (simp [copyL_len]; omega)) br1) (ag_cons rfl (ag_cons rfl (ag_cons rfl ag_nil)))) rfl ?_;refine st rfl rfl (eff_moveg rfl rfl) rfl ?_;refine st rfl rfl (eff_extract rfl rfl rfl) rfl ?_;refine st rfl rfl (eff_extract rfl rfl rfl) rfl ?_;refine st rfl rfl (eff_assigng rfl rfl) rfl ?_;refine st rfl rfl (eff_assigng rfl rfl) rfl ?_;refine st_nil ?_;refine aw_seq ?_;refine aw_draw [.p, .p, .p, .p, .p, .p, .p, .p, .p, .p, .p] (by kernel_rfl) ?_;refine st rfl rfl (eff_moveg rfl rfl) rfl ?_;refine st rfl rfl (eff_call rfl K1030 rfl (c1030 (s1022 a0.Limits)) (ag_cons rfl ag_nil)) rfl ?_;refine st rfl rfl (eff_fieldAddr rfl fl1027_1 rfl) rfl ?_;refine st rfl rfl (eff_load rfl ty1025 rfl) rfl ?_;refine st rfl rfl (eff_call rfl K1028 rfl (c1028 a0.Movements) (ag_cons rfl ag_nil)) rfl ?_;refine st rfl rfl (eff_loadA rfl ty1080 rfl rfl rfl) rfl ?_;refine st rfl rfl (eff_buildSlice rfl Tryz.underlying25 ty1080 z1080 rfl (ps_cons rfl ps_nil) rfl (by simp [S1079.c]) (by decide)) rfl ?_;refine st rfl rfl (eff_call rfl K1028 rfl (c1028 [a1]) (ag_cons rfl ag_nil)) rfl ?_;refine st rfl rfl (eff_buildSlice rfl Tryz.underlying51 ty3 z3 rfl (ps_cons rfl (ps_cons rfl (ps_cons rfl ps_nil))) rfl (by simp []) (by decide)) rfl ?_;refine st rfl rfl (eff_call rfl K1040 rfl (c1040 [(s1030 (s1022 a0.Limits)), (s1028 a0.Movements), (s1028 [a1])]) (ag_cons rfl ag_nil)) rfl ?_;refine st rfl rfl (eff_assigng rfl rfl) rfl ?_;refine st_nil ?_;refine aw_seq ?_;refine aw_region [.p] ?_;refine st rfl rfl (eff_assigng rfl rfl) rfl ?_;refine st_nil ?_;refine aw_cut_g (γ := Int × Int) (fun g => ([(6, .g (G.int r1.1)), (7, .g (G.int r1.2)), (8, .g (G.int g.1)), (9, .g (G.int g.2))], [])) (fun g => s1006_j1 r1 g.1 g.2 = some R) ?_ ?_
  ·refine aw_seq ?_;refine aw_region [.p, .p] ?_;refine st rfl rfl (eff_moveg rfl rfl) rfl ?_;refine st rfl rfl (eff_eql rfl rfl rfl) rfl ?_;refine st_nil ?_;refine aw_cond _ rfl (fun h3 => ?_) (fun h3 => ?_)
   ·replace h3 : (decide ((s1040 [(s1030 (s1022 a0.Limits)), (s1028 a0.Movements), (s1028 [a1])]) = 0)) = true := h3;replace hR := condT hR h3;(try simp only [Bool.or_eq_true, Bool.and_eq_true, Bool.or_eq_false_iff, Bool.and_eq_false_iff, Bool.not_eq_true', Bool.not_eq_false', decide_eq_true_eq, decide_eq_false_iff_not] at h3);obtain ⟨hsl6, hmo6⟩ := room6 h3;refine aw_seq ?_;refine aw_region [.p] ?_;refine st rfl rfl (eff_assigng rfl rfl) rfl ?_;refine st_nil ?_;refine aw_seq ?_;refine Exists.elim (bindO_inv hR) (fun r4 hq_ => ?_);have br4 := hq_.1;replace hR := hq_.2;clear hq_;refine aw_region [.p, .p, .p, .p, .p, .p, .p, .p, .p, .p] ?_;refine st rfl rfl (eff_moveg rfl rfl) rfl ?_;refine st rfl rfl (eff_fieldAddr rfl fl1027_1 rfl) rfl ?_;refine st rfl rfl (eff_load rfl ty1025 rfl) rfl ?_;refine st rfl rfl (eff_loadA rfl ty1080 rfl rfl rfl) rfl ?_;refine st rfl rfl (eff_call rfl K1046 rfl (c1046 (s1022 a0.Limits) a0.Movements a1 (by first | assumption | omega | (simp [copyL_len]; done) | (simp [copyL_len]; omega)) (by first | assumption | omega | (simp [copyL_len]; done) | (simp [copyL_len]; omega)) br4) (ag_cons rfl (ag_cons rfl (ag_cons rfl ag_nil)))) rfl ?_;refine st rfl rfl (eff_moveg rfl rfl) rfl ?_;refine st rfl rfl (eff_extract rfl rfl rfl) rfl ?_;refine st rfl rfl (eff_extract rfl rfl rfl) rfl ?_;refine st rfl rfl (eff_assigng rfl rfl) rfl ?_;refine st rfl rfl (eff_assigng rfl rfl) rfl ?_;refine st_nil ?_;refine aw_region [.p, .p, .p, .p] ?_;refine st rfl rfl (eff_moveg rfl rfl) rfl ?_;refine st rfl rfl (eff_not rfl rfl) rfl ?_;refine st rfl rfl (eff_call rfl K1038 rfl (c1038 (!r4.2) 7) (ag_cons rfl (ag_cons rfl ag_nil))) rfl ?_;refine st rfl rfl (eff_assigng rfl rfl) rfl ?_;refine st_nil ?_;exact ⟨rfl, ((s1038 (!r4.2) 7), r4.1), ⟨rfl, rfl, rfl, rfl, trivial⟩, trivial, rfl, hR, trivial⟩
   ·replace h3 : (decide ((s1040 [(s1030 (s1022 a0.Limits)), (s1028 a0.Movements), (s1028 [a1])]) = 0)) = false := h3;replace hR := condF hR h3;(try simp only [Bool.or_eq_true, Bool.and_eq_true, Bool.or_eq_false_iff, Bool.and_eq_false_iff, Bool.not_eq_true', Bool.not_eq_false', decide_eq_true_eq, decide_eq_false_iff_not] at h3);refine aw_skip ?_;exact ⟨rfl, ((s1040 [(s1030 (s1022 a0.Limits)), (s1028 a0.Movements), (s1028 [a1])]), 0), ⟨rfl, rfl, rfl, rfl, trivial⟩, trivial, rfl, hR, trivial⟩
  ·rintro ⟨x2, x3⟩ hR;replace hR : s1006_j1 r1 x2 x3 = some R := hR;unfold s1006_j1 at hR;refine aw_seq ?_;refine aw_seq ?_;refine aw_region [.p, .p] ?_;refine st rfl rfl (eff_moveg rfl rfl) rfl ?_;refine st rfl rfl (eff_neq rfl rfl rfl) rfl ?_;refine st_nil ?_;refine aw_cond _ rfl (fun h2 => ?_) (fun h2 => ?_)
   ·replace h2 : (decide (x2 ≠ 0)) = true := h2;replace hR := condT hR h2;(try simp only [Bool.or_eq_true, Bool.and_eq_true, Bool.or_eq_false_iff, Bool.and_eq_false_iff, Bool.not_eq_true', Bool.not_eq_false', decide_eq_true_eq, decide_eq_false_iff_not] at h2);refine aw_seq ?_;refine aw_region [.p, .p, .p, .p, .p, .p, .p, .p] ?_;refine st rfl rfl (eff_moveg rfl rfl) rfl ?_;refine st rfl rfl (eff_eql rfl rfl rfl) rfl ?_;refine st rfl rfl (eff_moveg rfl rfl) rfl ?_;refine st_g rfl rfl rfl (gb_bool _ _) (fun h => eff_moveg rfl rfl) rfl ?_;refine st_g rfl rfl rfl (gb_bool _ _) (fun h => eff_moveg rfl rfl) rfl ?_;refine st_g rfl rfl rfl (gb_bool _ _) (fun h => eff_eql rfl (gd h rfl) (gd h rfl)) rfl ?_;refine st rfl rfl (eff_and rfl rfl rfl rfl) rfl ?_;refine st rfl rfl (eff_assigng rfl rfl) rfl ?_;refine st_nil ?_;refine aw_ret ?_;exact res_e (res_c rfl (rv_g rfl)) (congrArg (fun R_ => G.bool R_) (Option.some.inj hR))
   ·replace h2 : (decide (x2 ≠ 0)) = false := h2;replace hR := condF hR h2;(try simp only [Bool.or_eq_true, Bool.and_eq_true, Bool.or_eq_false_iff, Bool.and_eq_false_iff, Bool.not_eq_true', Bool.not_eq_false', decide_eq_true_eq, decide_eq_false_iff_not] at h2);refine aw_skip ?_;refine aw_seq ?_;refine aw_region [.p, .p, .p, .p, .p, .p, .p, .p] ?_;refine st rfl rfl (eff_moveg rfl rfl) rfl ?_;refine st rfl rfl (eff_eql rfl rfl rfl) rfl ?_;refine st rfl rfl (eff_moveg rfl rfl) rfl ?_;refine st_g rfl rfl rfl (gb_bool _ _) (fun h => eff_moveg rfl rfl) rfl ?_;refine st_g rfl rfl rfl (gb_bool _ _) (fun h => eff_moveg rfl rfl) rfl ?_;refine st_g rfl rfl rfl (gb_bool _ _) (fun h => eff_eql rfl (gd h rfl) (gd h rfl)) rfl ?_;refine st rfl rfl (eff_and rfl rfl rfl rfl) rfl ?_;refine st rfl rfl (eff_assigng rfl rfl) rfl ?_;refine st_nil ?_;refine aw_ret ?_;exact res_e (res_c rfl (rv_g rfl)) (congrArg (fun R_ => G.bool R_) (Option.some.inj hR))
def rm (a : S1063) (l : List S1079) (m : Int) : Nat → Int → Int → Int
 | 0, _, x => x
 | n + 1, b, x => if b ≤ m then rm a l m n (b + a.Step) (min x (IntKind.i64.wrap (a.Most - s1042 a l b))) else x
theorem rm_prog (rec1 : Nat → Bool → Int → Option (Int × Int)) {a : S1063} {l : List S1079} {m : Int} (h : SeatOk a) (hm : ∀ m ∈ l, 0 ≤ m.Seats ∧ m.Seats ≤ 999) (hl : l.length ≤ 12) (h1 : m ≤ 143999999) (k4 : Nat) : ∀ (n : Nat) (b x : Int), 0 ≤ b →
  s1045_l2 rec1 k4 a ⟨(ownL a l).map S1079.Moment, sums 0 (ownL a l)⟩ (winL a.Step m n b) x = s1045_j1 rec1 k4 true (rm a l m n b x)
 | 0, b, x, _ => by rw [winL, s1045_l2, rm]
 | n + 1, b, x, hb => by
  rw [winL, rm]
  by_cases hc : b ≤ m
  ·rw [if_pos hc, if_pos hc, s1045_l2, (window_ok h hm hl hb (by omega)).1];simp only [bindO];exact rm_prog rec1 h hm hl h1 k4 n _ _ (by have := h.s0; omega)
  ·rw [if_neg hc, if_neg hc, s1045_l2]
theorem rm_ref (rec1 : Nat → Int → Bool → Option (Int × Bool)) {a : S1063} {l : List S1079} {a2 : S1079} (h : SeatOk a) (k4 : Nat) : ∀ (n k : Nat) (b x : Int), (a2.Moment + 1 - b).toNat < n → a2.Moment + 1 - b ≤ (k : Int) →
  s1046_l2 rec1 l a2 k4 a n x b = s1046_j1 rec1 k4 (rm a l a2.Moment k b x) true
 | 0, k, b, x, hn, _ => by omega
 | n + 1, k, b, x, hn, hk => by
  have hs := h.s0;rw [s1046_l2]
  by_cases hc : b ≤ a2.Moment
  ·obtain ⟨k', rfl⟩ : ∃ k', k = k' + 1 := ⟨k - 1, by omega⟩;rw [decide_eq_true hc, cond_true, rm, if_pos hc];exact rm_ref rec1 h k4 n k' _ _ (by omega) (by omega)
  ·rw [decide_eq_false hc, cond_false]
   cases k with
   | zero => rw [rm]
   | succ k => rw [rm, if_neg hc]
def both (r : Int × Bool) : Int × Int := bif r.2 then (r.1, 0) else (0, 7)
theorem room_eq {a1 : List S1079} {a2 : S1079} (hm : ∀ m ∈ a1, 0 ≤ m.Seats ∧ m.Seats ≤ 999) (hl : a1.length ≤ 12) (h2 : MovOk a2) : ∀ (t : List S1063) (k : Nat) (x : Int) (f : Bool), (∀ a ∈ t, SeatOk a) →
  ∃ r, s1046_l1 a1 a2 t k x f = some r ∧ s1045_l1 a1 a2 t k f x = some (both r)
 | [], k, x, f, _ => ⟨(max 0 x, f), rfl, by rw [s1045_l1]; unfold both; cases f <;> rfl⟩
 | a :: t, k, x, f, ht => by
  have ha := ht a List.mem_cons_self;have ht' := fun b hb => ht b (List.mem_cons_of_mem _ hb);rw [s1046_l1, s1045_l1];have e : s1116 a a2 = s1113 a a2 := rfl;rw [e]
  cases hc : s1113 a a2
  ·simp only [Bool.not_false, cond_true];unfold s1046_j1 s1045_j1;exact room_eq hm hl h2 t (k + 1) x f ht'
  ·simp only [Bool.not_true, cond_false];rw [fw_ok ha h2.m0 h2.m1, s1111_ok a hm hl];simp only [bindO];have hw := win0_rng ha h2.m0 h2.m1;have hL := ha.l1;unfold winsOf;rw [rm_prog _ ha hm hl h2.m1 k 1450 _ _ hw.1, rm_ref _ ha k _ 1450 _ _ (by omega) (by omega)];unfold s1046_j1 s1045_j1;exact room_eq hm hl h2 t (k + 1) _ true ht'
theorem s1006_true (a0 : S1026) (a1 : S1079) : s1006 a0 a1 = some true := by
 unfold s1006;rw [s1015_eq, s1022_eq]
 cases hg : (((!true) || (!(s1021 a0.Limits 4))) || (!(s1020 a0.Movements 10))) || (!(s1020 [a1] 1))
 case true => rfl
 rw [cond_false];simp only [Bool.not_true, Bool.false_or, Bool.or_eq_false_iff, Bool.not_eq_false'] at hg
 have hbad : s1040 [(s1030 a0.Limits), (s1028 a0.Movements), (s1028 [a1])] = s89 [s1029 a0.Limits, s1027 a0.Movements, s1027 [a1]] := by rw [s1040_eq, movs_eq, movs_eq, seats_eq]
 rw [hbad]
 by_cases hz : s89 [s1029 a0.Limits, s1027 a0.Movements, s1027 [a1]] = 0
 ·have hz2 := hz;rw [s89_zero] at hz2;have hs := seats_ok (l := a0.Limits) (hz2 (s1029 a0.Limits) (by simp));have hm := movs_ok (l := a0.Movements) (hz2 (s1027 a0.Movements) (by simp));have h1 := (movs_ok (l := [a1]) (hz2 (s1027 [a1]) (by simp))).2 a1 (by simp)
  have hl : a0.Movements.length ≤ 12 := by have := short_movs hg.1.2 (by decide) hm.1; omega
  obtain ⟨r, r1, r2⟩ := room_eq (fun m hmm => ⟨(hm.2 m hmm).s0, (hm.2 m hmm).s1⟩) hl h1 a0.Limits 0 999 false hs.2
  have e45 : s1045 a0.Limits a0.Movements a1 = some (both r) := by
   unfold s1045; rw [s1085_eq, hz]; simpa using r2
  have e46 : s1046 a0.Limits a0.Movements a1 = some r := r1;rw [e45, e46];simp only [bindO];rw [decide_eq_true hz, cond_true];unfold s1006_j1 both;rw [s1038_ite]
  cases hf : r.2
  ·simp
  ·simp
 ·have e45 : s1045 a0.Limits a0.Movements a1 = some (0, s89 [s1029 a0.Limits, s1027 a0.Movements, s1027 [a1]]) := by
   unfold s1045; rw [s1085_eq]; simp [hz]
  rw [e45];simp only [bindO];rw [decide_eq_false hz, cond_false];unfold s1006_j1
  simp [hz]
end Go.Sim
