/-
  What is proved: lemmas and contracts of functions on the way to the law groundSums (part 10).
-/
import Derived.Test.YthhidpjikbhljaaGreatDoorVrA7
import Derived.Test.YthhidpjikbhljaaGreatDoorVrA9
import Derived.Test.YthhidpjikbhljaaGreatDoorVrA5
import Derived.Test.YthhidpjikbhljaaGreatDoorVrA8
import Derived.Scope
import Derived.RangeFuncBox
import Derived.RangeFuncNested
import Derived.RangeFuncBound
import Derived.RangeFuncCalls
import Derived.RangeFuncLeaves
import Derived.Shelf.Abstract
import Derived.Shelf.RegionOpen
import Derived.WalkKit
import Derived.OwnWalkIn
import Derived.TacticsInMore
import Derived.LoopNIn
import Derived.LoopIn
import Derived.Lib.Hide
import Derived.Test.YthhidpjikbhljaaGreatDoorVrA2
set_option linter.unusedSectionVars false
set_option linter.unusedSimpArgs false
set_option linter.unusedVariables false
set_option linter.unnecessarySimpa false
set_option linter.deprecated false
namespace Go.Sim
theorem f89_k : ∀ (l : List Int) (k k' : Nat), s89_l1 l k = s89_l1 l k'
 | [], _, _ => rfl
 | x :: l, k, k' => by simp only [s89_l1]; rw [f89_k l (k + 1) (k' + 1)]
theorem s89_nil : s89 [] = 0 := rfl
theorem s89_cons (x : Int) (l : List Int) : s89 (x :: l) = if x = 0 then s89 l else x := by
 unfold s89;simp only [s89_l1];rw [f89_k l (0 + 1) 0]
 by_cases h : x = 0 <;> simp [h]
theorem f1085_k : ∀ (l : List Int) (k : Nat), s1085_l1 l k = s89_l1 l k
 | [], _ => rfl
 | x :: l, k => by simp only [s1085_l1, s89_l1]; rw [f1085_k l (k + 1)]
theorem s1085_eq (l : List Int) : s1085 l = s89 l := f1085_k l 0
theorem s1088_eq (a b c : Int) : s1088 a b c = s90 a b c := rfl
theorem s1098_eq (a : Int) : s1098 a = s96 a := rfl
theorem s90_ite (a b c : Int) : s90 a b c = if b ≤ a ∧ a ≤ c then 0 else 3 := by
 unfold s90
 by_cases h1 : a < b <;> by_cases h2 : c < a <;> simp [h1, h2] <;> omega
theorem s1086_ite (b : Bool) (e : Int) : s1086 b e = if b = true then e else 0 := by cases b <;> rfl
theorem decode_lo {s : ByteArray} {i : Nat} (h : (s.get! i).toNat < 128) : Utf8.decode s i = ((s.get! i).toNat, 1) := by
 unfold Utf8.decode
 simp [h]
theorem decode_hi {s : ByteArray} {i : Nat} (h : 128 ≤ (s.get! i).toNat) : 128 ≤ (Utf8.decode s i).1 := by
 unfold Utf8.decode;simp only [Nat.add_zero];rw [if_neg (by omega)]
 repeat' split
 all_goals first | assumption | (simp [Utf8.runeError]; done) | (rename_i h2; simp only [Bool.and_eq_true, decide_eq_true_eq] at h2; have h3 := h2.1; dsimp only; omega)
theorem get_toList {s : ByteArray} {i : Nat} (h : i < s.data.toList.length) : s.get! i = s.data.toList[i] := by
 have h' : i < s.data.size := by simpa using h
 show s.data[i]! = _;rw [getElem!_pos s.data i h']
 simp
theorem name_loop (s : ByteArray) : ∀ n pos, s.size ≤ pos + n → s147_l1 (runesF s n pos) = s91_l1 (s.data.toList.drop pos) pos := by
 intro n
 induction n with
 | zero =>
  intro pos h;rw [List.drop_eq_nil_of_le (by simpa using h)]; rfl
 | succ n ih =>
  intro pos h;unfold runesF
  split
  ·rename_i hp
   have hl : pos < s.data.toList.length := by simpa using hp
   rw [List.drop_eq_getElem_cons hl, s147_l1, s91_l1, ← get_toList hl]
   rcases Nat.lt_or_ge (s.get! pos).toNat 128 with hb | hb
   ·rw [decode_lo hb, ih (pos + 1) (by omega)];have e1 : (decide (((pos : Nat) : Int) = 0)) = decide ((pos : Int) = 0) := rfl;dsimp only;rw [Bool.or_comm ((decide ((65 : Int) ≤ _)) && _)]
   ·have hb2 := decode_hi hb
    have c1 : (!(((decide ((65 : Int) ≤ ((Utf8.decode s pos).1 : Int))) && (decide (((Utf8.decode s pos).1 : Int) ≤ 90))) || ((decide ((97 : Int) ≤ ((Utf8.decode s pos).1 : Int))) && (decide (((Utf8.decode s pos).1 : Int) ≤ 122))))) = true := by
     simp; omega
    have c2 : (!(((decide ((97 : Int) ≤ ((s.get! pos).toNat : Int))) && (decide (((s.get! pos).toNat : Int) ≤ 122))) || ((decide ((65 : Int) ≤ ((s.get! pos).toNat : Int))) && (decide (((s.get! pos).toNat : Int) ≤ 90))))) = true := by
     simp; omega
    dsimp only;rw [c1, c2]
    have d1 : (decide (((Utf8.decode s pos).1 : Int) ≠ 95) && (decide (((Utf8.decode s pos).1 : Int) < 48) || decide (57 < ((Utf8.decode s pos).1 : Int)))) = true := by simp; omega
    have d2 : (decide (((s.get! pos).toNat : Int) ≠ 95) && (decide (((s.get! pos).toNat : Int) < 48) || decide (57 < ((s.get! pos).toNat : Int)))) = true := by simp; omega
    rw [d1, d2]; simp
  ·rename_i hp
   rw [List.drop_eq_nil_of_le (by simpa using hp)]; rfl
theorem name_eq (s : ByteArray) : s147 s = s91 s := by
 unfold s147 s91 runes;rw [name_loop s _ 0 (by omega)]; rfl
theorem s1089_eq (s : ByteArray) : s1089 s = s1093 s := by
 unfold s1089 s1093; rw [name_eq, s1086_ite, cond_eq_ite]
theorem ixO_at {α : Type} {l : List α} {i : Nat} (h : i < l.length) : ixO l (i : Int) = some l[i] := by
 unfold ixO; rw [decide_eq_true (by omega), cond_true]; simp [h]
theorem index_k {α : Type} (p : α → Bool) (F : List α → Nat → Int) (h0 : ∀ k, F [] k = -1) (h1 : ∀ y t k, F (y :: t) k = bif p y then ((k : Nat) : Int) else F t (k + 1)) :
  ∀ l k, decide (0 ≤ F l k) = l.any p
 | [], k => by rw [h0]; rfl
 | y :: t, k => by
  rw [h1, List.any_cons]
  cases p y with
  | true => simp
  | false => simpa using index_k p F h0 h1 t (k + 1)
theorem s88_eq (l : List ByteArray) (a : ByteArray) : s88 l a = l.any fun x => decide (a = x) :=
 index_k (fun x => decide (a = x)) (s148_l1 a) (fun _ => rfl) (fun _ _ _ => rfl) l 0
theorem movs_l (a : List S1079) : ∀ t k, s1028_l1 t k = s1099_l1 a s1100 t k
 | [], k => rfl
 | y :: t, k => by
  rw [s1028_l1, s1099_l1, ← movs_l a t (k + 1)];unfold s1100 s1028_j2 s1028_j1;rw [s1085_eq, s1086_ite, s1086_ite, name_eq, s1089_eq, s1088_eq, s1088_eq, s1088_eq, s1098_eq];simp only [s89_cons, s89_nil, s1092]
  by_cases c1 : s96 y.Moment = 0 <;> by_cases c2 : y.Kind = ⟨#[65]⟩ <;> by_cases c3 : y.Kind = ⟨#[68]⟩ <;> by_cases c4 : s1093 y.Terminal = 0 <;> by_cases c5 : s90 y.Seats 0 999 = 0 <;> by_cases c6 : s90 y.Size 1 9 = 0 <;> by_cases c7 : s90 y.Noise 0 99 = 0 <;> by_cases c8 : s91 y.Name = true <;> simp [c1, c2, c3, c4, c5, c6, c7, c8]
theorem movs_eq (a : List S1079) : s1028 a = s1027 a := by
 unfold s1028 s1027 s1099;rw [movs_l a a 0]
theorem s89_zero : ∀ (l : List Int), s89 l = 0 ↔ ∀ x ∈ l, x = 0
 | [] => by simp [s89_nil]
 | x :: l => by
  rw [s89_cons]
  by_cases h : x = 0
  ·simp [h, s89_zero l]
  ·simp [h]
theorem s90_zero (a b c : Int) : s90 a b c = 0 ↔ b ≤ a ∧ a ≤ c := by rw [s90_ite]; split <;> simp_all
theorem s96_zero (a : Int) : s96 a = 0 ↔ 0 ≤ a ∧ a ≤ 143999999 := s90_zero _ _ _
theorem s1086_zero (b : Bool) (e : Int) (he : e ≠ 0) : s1086 b e = 0 ↔ b = false := by rw [s1086_ite]; cases b <;> simp [he]
structure TurnOk (t : S1124) : Prop where
 s0 : 0 ≤ t.Start
 se : t.Start ≤ t.End
 e1 : t.End ≤ 143999999
 z0 : 1 ≤ t.Size
 z1 : t.Size ≤ 9
 nm : s91 t.Name = true
structure StandOk (t : S1122) : Prop where
 z0 : 1 ≤ t.Size
 z1 : t.Size ≤ 9
 nm : s91 t.Name = true
structure MovOk (m : S1079) : Prop where
 m0 : 0 ≤ m.Moment
 m1 : m.Moment ≤ 143999999
 s0 : 0 ≤ m.Seats
 s1 : m.Seats ≤ 999
 n0 : 0 ≤ m.Noise
 n1 : m.Noise ≤ 99
 kd : m.Kind = ⟨#[65]⟩ ∨ m.Kind = ⟨#[68]⟩
 nm : s91 m.Name = true
theorem movs_all (a : List S1079) : ∀ t k, s1099_l1 a s1100 t k = 0 → ∀ y ∈ t, MovOk y
 | [], _, _, y, hy => by cases hy
 | z :: t, k, h, y, hy => by
  rw [s1099_l1] at h
  by_cases h0 : s1100 z (List.take (Int.toNat ((k : Nat) : Int)) a) = 0
  ·rw [h0] at h
   rcases List.mem_cons.1 hy with rfl | hy
   ·unfold s1100 at h0;rw [s1085_eq, s89_zero] at h0;simp only [List.mem_cons, List.not_mem_nil, or_false, forall_eq_or_imp, forall_eq] at h0;obtain ⟨g1, g2, _, g3, _, g5, g6⟩ := h0;rw [s1098_eq, s96_zero] at g1;rw [s1086_zero _ _ (by decide)] at g2;rw [s1086_zero _ _ (by decide), name_eq] at g6;rw [s1088_eq, s90_zero] at g3 g5;refine ⟨g1.1, g1.2, g3.1, g3.2, g5.1, g5.2, ?_, by simpa using g6⟩
    by_cases h1 : y.Kind = ⟨#[65]⟩
    ·exact .inl h1
    ·by_cases h2 : y.Kind = ⟨#[68]⟩
     ·exact .inr h2
     ·simp [h1, h2] at g2
   ·exact movs_all a t (k + 1) (by simpa using h) y hy
  ·rw [decide_eq_true h0, cond_true] at h; exact absurd h h0
theorem movs_ok {l : List S1079} (h : s1027 l = 0) : l.length ≤ 256 ∧ ∀ y ∈ l, MovOk y := by
 unfold s1027 s1099 at h
 cases hc : decide ((256 : Int) < (List.length l : Int))
 ·rw [hc] at h;exact ⟨by have := of_decide_eq_false hc; omega, movs_all l l 0 h⟩
 ·rw [hc] at h; simp at h
structure SeatOk (x : S1063) : Prop where
 l0 : 1 ≤ x.Length
 l1 : x.Length ≤ 1440
 s0 : 1 ≤ x.Step
 s1 : x.Step ≤ x.Length
 m0 : 0 ≤ x.Most
 m1 : x.Most ≤ 999999999
 kd : x.Kind = ⟨#[65]⟩ ∨ x.Kind = ⟨#[68]⟩ ∨ x.Kind = ⟨#[84]⟩
theorem seats_all (a : List S1063) : ∀ t k, s1101_l1 a s1102 t k = 0 → ∀ y ∈ t, SeatOk y
 | [], _, _, y, hy => by cases hy
 | z :: t, k, h, y, hy => by
  rw [s1101_l1] at h
  by_cases h0 : s1102 z (List.take (Int.toNat ((k : Nat) : Int)) a) = 0
  ·rw [h0] at h
   rcases List.mem_cons.1 hy with rfl | hy
   ·unfold s1102 at h0;rw [s1085_eq, s89_zero] at h0;simp only [List.mem_cons, List.not_mem_nil, or_false, forall_eq_or_imp, forall_eq] at h0;obtain ⟨_, g2, g3, g4, g5⟩ := h0;rw [s1086_zero _ _ (by decide), s88_eq] at g2;rw [s1088_eq, s90_zero] at g3 g4 g5;refine ⟨g3.1, g3.2, g4.1, g4.2, g5.1, g5.2, ?_⟩
    simp at g2
    by_cases h1 : y.Kind = ⟨#[65]⟩
    ·exact .inl h1
    ·by_cases h2 : y.Kind = ⟨#[68]⟩
     ·exact .inr (.inl h2)
     ·exact .inr (.inr (g2 h1 h2))
   ·exact seats_all a t (k + 1) (by simpa using h) y hy
  ·rw [decide_eq_true h0, cond_true] at h; exact absurd h h0
theorem seats_ok {l : List S1063} (h : s1029 l = 0) : l.length ≤ 32 ∧ ∀ y ∈ l, SeatOk y := by
 unfold s1029 s1101 at h
 cases hc : decide ((32 : Int) < (List.length l : Int))
 ·rw [hc] at h;exact ⟨by have := of_decide_eq_false hc; omega, seats_all l l 0 h⟩
 ·rw [hc] at h; simp at h
def ltM (a b : S1079) : Bool := decide (a.Moment < b.Moment)
theorem s1153_lt (a b : S1079) : decide (s1153 a b < 0) = ltM a b := by
 have h : ∀ x, s202 x = false := fun x => by unfold s202; simp
 unfold s1153 s167 ltM;rw [h, h]
 by_cases h1 : a.Moment < b.Moment
 ·simp [h1]
 ·by_cases h2 : b.Moment < a.Moment <;> simp [h1, h2]
def ownL (a0 : S1063) (l : List S1079) : List S1079 := isort ltM (l.filter (fun m => s1116 a0 m))
def sums (x : Int) : List S1079 → List Int
 | [] => [x]
 | m :: l => x :: sums (x + m.Seats) l
theorem load_loop (r : List S1079) (hr : ∀ m ∈ r, 0 ≤ m.Seats ∧ m.Seats ≤ 999) : ∀ (t pre : List S1079) (ms bs : List Int) (x : Int), r = pre ++ t → ms = pre.map S1079.Moment → bs.length = pre.length → 0 ≤ x → x + 999 * (t.length : Int) ≤ 1000000 → r.length ≤ 1000 →
  s1111_l1 r t.length (pre.length : Int) ms (bs ++ [x]) = some ⟨r.map S1079.Moment, bs ++ sums x t⟩
 | [], pre, ms, bs, x, hp, hm, _, _, _, _ => by
  rw [List.length_nil, s1111_l1, hm, hp]; simp [sums]
 | y :: t, pre, ms, bs, x, hp, hm, hb, h0, h1, hl => by
  rw [List.length_cons, s1111_l1]
  have i1 : ixO r (pre.length : Int) = some y := by rw [hp]; exact ixO_app
  have i2 : ixO (bs ++ [x]) (pre.length : Int) = some x := ixO_app' (by rw [hb]);have hy := hr y (by rw [hp]; simp);rw [List.length_cons] at h1;rw [i1, i2];simp only [bindO];rw [wrap_i64 (by unfold I64; omega)];have ih := load_loop r hr t (pre ++ [y]) (ms ++ [y.Moment]) (bs ++ [x]) (x + y.Seats) (by rw [hp]; simp) (by rw [hm]; simp) (by simp [hb]) (by omega) (by omega) hl;rw [show ((pre.length : Int) + 1) = (((pre ++ [y]).length : Nat) : Int) by simp, ih]
  simp [sums]
theorem s1111_ok (a0 : S1063) {l : List S1079} (hr : ∀ m ∈ l, 0 ≤ m.Seats ∧ m.Seats ≤ 999) (hl : l.length ≤ 12) : s1111 a0 l = some ⟨(ownL a0 l).map S1079.Moment, sums 0 (ownL a0 l)⟩ := by
 unfold s1111;obtain ⟨L, h1, h2, h3⟩ := s1149_ok l (fun x0 => s1151 x0 a0)
 have hp : (fun y => !(s1151 y a0)) = fun m => s1116 a0 m := by funext m; unfold s1151; simp
 rw [h1];simp only [bindO];rw [h2, hp, s1152_ok (lt := ltM) (fun y _ x _ => ⟨_, rfl, s1153_lt x y⟩)]
 simp only
 have hperm := isort_perm ltM (l.filter fun m => s1116 a0 m);have hlen : (l.filter fun m => s1116 a0 m).length = (ownL a0 l).length := hperm.length_eq.symm;rw [hlen, show (((ownL a0 l).length : Int) - 0).toNat = (ownL a0 l).length by omega]
 have hol : (ownL a0 l).length ≤ 12 := by rw [← hlen]; exact Nat.le_trans (List.length_filter_le _ _) hl
 have hmem : ∀ m ∈ ownL a0 l, 0 ≤ m.Seats ∧ m.Seats ≤ 999 := fun m hm => hr m (List.mem_filter.1 (hperm.mem_iff.1 hm)).1;have := load_loop (ownL a0 l) hmem (ownL a0 l) [] [] [] 0 rfl rfl rfl (by decide) (by omega) (by omega);show s1111_l1 (ownL a0 l) (ownL a0 l).length 0 [] [0] = _
 simpa using this
theorem len1111 {a0 : S1063} {l : List S1079} {r : S1195} (h : s1111 a0 l = some r) (hl : l.length ≤ 12) : r.moments.length ≤ 12 := by
 have key : ∀ (q : List S1079) (n : Nat) (x : Int) (ms bs : List Int) (r : S1195), s1111_l1 q n x ms bs = some r → r.moments.length = ms.length + n := by
  intro q n
  induction n with
  | zero => intro x ms bs r h; rw [s1111_l1] at h; cases h; simp
  | succ n ih =>
   intro x ms bs r h;rw [s1111_l1] at h;obtain ⟨y, _, h⟩ := bindO_inv h;obtain ⟨z, _, h⟩ := bindO_inv h;have := ih _ _ _ _ h;rw [this]; simp; omega
 unfold s1111 at h;obtain ⟨r1, h1, h⟩ := bindO_inv h;obtain ⟨r2, h2, h⟩ := bindO_inv h;have := key _ _ _ _ _ _ h;have h3 := num1149 h1
 simp at this; omega
end Go.Sim
set_option maxRecDepth 10000
namespace Go.Sim
open Go.Proofs
def s1155 (a0 : S1195) (a1 : Int) : Option Int :=
 bindO (s1175 a0.moments a1) fun r1 => bindO (ixO a0.before r1.1) fun y2 => some y2
theorem c1155 {g : List (Nat × List Value)} (a0 : S1195) (a1 : Int) {R : Int}  (hb : a0.moments.length ≤ 1000) (hR : s1155 a0 a1 = some R) : Con (EG g) 155 [G.agg [G.sl 1 (List.map cInt a0.moments), G.sl 1 (List.map cInt a0.before)], G.int a1] (G.int R) := by
 unfold s1155 at hR;refine con_of_aw Tryz.func155 rfl rfl fun w0 M0 => ?_;refine aw_seq ?_;refine aw_region [.p, .p] ?_;refine st rfl rfl (eff_box rfl rfl) rfl ?_;refine st rfl rfl (eff_assigng rfl rfl) rfl ?_;refine st_nil ?_;refine aw_seq ?_;obtain ⟨r1, br1, hR⟩ := bindO_inv hR;refine aw_region [.p, .p, .p, .p, .p, .p, .p, .p, .p] ?_;refine st rfl rfl (eff_fieldAddr rfl fl1196_0 rfl) rfl ?_;refine st rfl rfl (eff_load rfl ty82 rfl) rfl ?_;refine st rfl rfl (eff_moveg rfl rfl) rfl ?_;refine st rfl rfl (eff_call rfl K1175 rfl (c1175 a0.moments a1 (by first | assumption | omega | (simp [copyL_len]; done) | (simp [copyL_len]; omega)) br1) (ag_cons rfl (ag_cons rfl ag_nil))) rfl ?_;refine st rfl rfl (eff_moveg rfl rfl) rfl ?_;refine st rfl rfl (eff_extract rfl rfl rfl) rfl ?_;refine st rfl rfl (eff_extract rfl rfl rfl) rfl ?_;refine st rfl rfl (eff_assigng rfl rfl) rfl ?_;refine st rfl rfl (eff_assigng rfl rfl) rfl ?_;refine st_nil ?_;refine aw_seq ?_;obtain ⟨y2, by2, hR⟩ := bindO_inv hR;refine aw_region [.p, .p, .p, .p, .p, .p] ?_;refine st rfl rfl (eff_fieldAddr rfl fl1196_1 rfl) rfl ?_;refine st rfl rfl (eff_load rfl ty82 rfl) rfl ?_;refine st rfl rfl (eff_moveg rfl rfl) rfl ?_;refine st rfl rfl (eff_ix (f := cInt) (l := a0.before) (a := y2) rfl Tryz.underlying51 ty3 rfl rfl (ixO_nn by2) (ixO_get by2)) rfl ?_;refine st rfl rfl (eff_load rfl ty3 rfl) rfl ?_;refine st rfl rfl (eff_assigng rfl rfl) rfl ?_;refine st_nil ?_;refine aw_ret ?_;obtain rfl := Option.some.inj hR;exact res_c rfl (rv_g rfl)
def s1112 (a0 : S1195) (a1 : Int) (a2 : Int) : Option Int :=
 bindO (s1155 a0 (IntKind.i64.wrap (a1 + a2))) fun r1 => bindO (s1155 a0 a1) fun r2 => some (IntKind.i64.wrap (r1 - r2))
theorem c1112 {g : List (Nat × List Value)} (a0 : S1195) (a1 : Int) (a2 : Int) {R : Int}  (hb : a0.moments.length ≤ 1000) (hR : s1112 a0 a1 a2 = some R) : Con (EG g) 112 [G.agg [G.sl 1 (List.map cInt a0.moments), G.sl 1 (List.map cInt a0.before)], G.int a1, G.int a2] (G.int R) := by
 unfold s1112 at hR;refine con_of_aw Tryz.func112 rfl rfl fun w0 M0 => ?_;refine aw_seq ?_;refine aw_region [.p, .p] ?_;refine st rfl rfl (eff_box rfl rfl) rfl ?_;refine st rfl rfl (eff_assigng rfl rfl) rfl ?_;refine st_nil ?_;refine aw_seq ?_;obtain ⟨r1, br1, hR⟩ := bindO_inv hR;obtain ⟨r2, br2, hR⟩ := bindO_inv hR;refine aw_draw [.p, .p, .p, .p, .p, .p, .p, .p, .p, .p] (by kernel_rfl) ?_;refine st rfl rfl (eff_loadA rfl ty1196 rfl rfl rfl) rfl ?_;refine st rfl rfl (eff_moveg rfl rfl) rfl ?_;refine st rfl rfl (eff_moveg rfl rfl) rfl ?_;refine st rfl rfl (eff_addw rfl rfl rfl) rfl ?_;refine st rfl rfl (eff_call rfl K1155 rfl (c1155 a0 (IntKind.i64.wrap (a1 + a2)) (by first | assumption | omega | (simp [copyL_len]; done) | (simp [copyL_len]; omega)) br1) (ag_cons rfl (ag_cons rfl ag_nil))) rfl ?_;refine st rfl rfl (eff_loadA rfl ty1196 rfl rfl rfl) rfl ?_;refine st rfl rfl (eff_moveg rfl rfl) rfl ?_;refine st rfl rfl (eff_call rfl K1155 rfl (c1155 a0 a1 (by first | assumption | omega | (simp [copyL_len]; done) | (simp [copyL_len]; omega)) br2) (ag_cons rfl (ag_cons rfl ag_nil))) rfl ?_;refine st rfl rfl (eff_subw rfl rfl rfl) rfl ?_;refine st rfl rfl (eff_assigng rfl rfl) rfl ?_;refine st_nil ?_;refine aw_ret ?_;obtain rfl := Option.some.inj hR;exact res_c rfl (rv_g rfl)
def s1039 (a0 : S1063) (a1 : List S1079) (a2 : Int) : Option (Int × Int) :=
 (bif decide ((s1085 [(s1029 [a0]), (s1027 a1), (s1098 a2)]) ≠ 0) then some (0, (s1085 [(s1029 [a0]), (s1027 a1), (s1098 a2)])) else bindO (s1111 a0 a1) fun r1 => bindO (s1112 r1 a2 a0.Length) fun r2 => some (r2, 0))
theorem c1039 {g : List (Nat × List Value)} (a0 : S1063) (a1 : List S1079) (a2 : Int) {R : Int × Int}  (hb : ¬ s1085 [(s1029 [a0]), (s1027 a1), (s1098 a2)] ≠ 0 → a1.length ≤ 12) (hR : s1039 a0 a1 a2 = some R) : Con (EG g) 39 [G.agg [G.str a0.Terminal, G.str a0.Kind, G.int a0.Length, G.int a0.Step, G.int a0.Most], G.sl 7 (List.map S1079.c a1), G.int a2] (G.tup [G.int R.1, G.int R.2]) := by
 unfold s1039 at hR;refine con_of_aw Tryz.func39 rfl rfl fun w0 M0 => ?_;refine len_sl (f := S1079.c) (l := a1) 1 rfl fun hla1 => ?_;refine aw_seq ?_;refine aw_region [.p, .p, .p] ?_;refine st rfl rfl (eff_box rfl rfl) rfl ?_;refine st rfl rfl (eff_assigng rfl rfl) rfl ?_;refine st rfl rfl (eff_assigng rfl rfl) rfl ?_;refine st_nil ?_;refine aw_seq ?_;refine aw_seq ?_;refine aw_region [.p, .p, .p, .p, .p, .p, .p, .p, .p, .p] ?_;refine st rfl rfl (eff_loadA rfl ty1064 rfl rfl rfl) rfl ?_;refine st rfl rfl (eff_buildSlice rfl Tryz.underlying24 ty1064 z1064 rfl (ps_cons rfl ps_nil) rfl (by simp [S1063.c]) (by decide)) rfl ?_;refine st rfl rfl (eff_call rfl K1029 rfl (c1029 [a0]) (ag_cons rfl ag_nil)) rfl ?_;refine st rfl rfl (eff_moveg rfl rfl) rfl ?_;refine st rfl rfl (eff_call rfl K1027 rfl (c1027 a1) (ag_cons rfl ag_nil)) rfl ?_;refine st rfl rfl (eff_moveg rfl rfl) rfl ?_;refine st rfl rfl (eff_call rfl K1098 rfl (c1098 a2) (ag_cons rfl ag_nil)) rfl ?_;refine st rfl rfl (eff_buildSlice rfl Tryz.underlying222 ty37 z37 rfl (ps_cons rfl (ps_cons rfl (ps_cons rfl ps_nil))) rfl (by simp []) (by decide)) rfl ?_;refine st rfl rfl (eff_call rfl K1085 rfl (c1085 [(s1029 [a0]), (s1027 a1), (s1098 a2)]) (ag_cons rfl ag_nil)) rfl ?_;refine st rfl rfl (eff_assigng rfl rfl) rfl ?_;refine st_nil ?_;refine aw_seq ?_;refine aw_region [.p, .p] ?_;refine st rfl rfl (eff_moveg rfl rfl) rfl ?_;refine st rfl rfl (eff_neq rfl rfl rfl) rfl ?_;refine st_nil ?_;refine aw_cond _ rfl (fun h1 => ?_) (fun h1 => ?_)
 ·replace h1 : (decide ((s1085 [(s1029 [a0]), (s1027 a1), (s1098 a2)]) ≠ 0)) = true := h1;replace hR := condT hR h1;(try simp only [Bool.or_eq_true, Bool.and_eq_true, Bool.or_eq_false_iff, Bool.and_eq_false_iff, Bool.not_eq_true', Bool.not_eq_false', decide_eq_true_eq, decide_eq_false_iff_not] at h1);refine aw_seq ?_;refine aw_region [.p, .p, .p] ?_;refine st rfl rfl (eff_moveg rfl rfl) rfl ?_;refine st rfl rfl (eff_assigng rfl rfl) rfl ?_;refine st rfl rfl (eff_assigng rfl rfl) rfl ?_;refine st_nil ?_;refine aw_ret ?_;obtain rfl := Option.some.inj hR;exact resN rfl ⟨rv_g rfl, rv_g rfl, trivial⟩ (by simp)
 ·replace h1 : (decide ((s1085 [(s1029 [a0]), (s1027 a1), (s1098 a2)]) ≠ 0)) = false := h1;replace hR := condF hR h1;(try simp only [Bool.or_eq_true, Bool.and_eq_true, Bool.or_eq_false_iff, Bool.and_eq_false_iff, Bool.not_eq_true', Bool.not_eq_false', decide_eq_true_eq, decide_eq_false_iff_not] at h1);have hb1 := hb h1;refine aw_skip ?_;refine aw_seq ?_;obtain ⟨r1, br1, hR⟩ := bindO_inv hR;obtain ⟨r2, br2, hR⟩ := bindO_inv hR;have hlm := len1111 br1 hb1;refine aw_draw [.p, .p, .p, .p, .p, .p, .p, .p, .p] (by kernel_rfl) ?_;refine st rfl rfl (eff_loadA rfl ty1064 rfl rfl rfl) rfl ?_;refine st rfl rfl (eff_moveg rfl rfl) rfl ?_;refine st rfl rfl (eff_call rfl K1111 rfl (c1111 a0 a1 (by first | assumption | omega | (simp [copyL_len]; done) | (simp [copyL_len]; omega)) br1) (ag_cons rfl (ag_cons rfl ag_nil))) rfl ?_;refine st rfl rfl (eff_moveg rfl rfl) rfl ?_;refine st rfl rfl (eff_fieldAddr rfl fl1064_2 rfl) rfl ?_;refine st rfl rfl (eff_load rfl ty3 rfl) rfl ?_;refine st rfl rfl (eff_call rfl K1112 rfl (c1112 r1 a2 a0.Length (by first | assumption | omega | (simp [copyL_len]; done) | (simp [copyL_len]; omega)) br2) (ag_cons rfl (ag_cons rfl (ag_cons rfl ag_nil)))) rfl ?_;refine st rfl rfl (eff_assigng rfl rfl) rfl ?_;refine st rfl rfl (eff_assigng rfl rfl) rfl ?_;refine st_nil ?_;refine aw_ret ?_;obtain rfl := Option.some.inj hR;exact resN rfl ⟨rv_g rfl, rv_g rfl, trivial⟩ (by simp)
section
variable {E : Env} {w0 : World} {M0 : Nat → Prop}
def Seq (E : Env) (g : FuncId) (caps : List G) {α : Type} (enc : α → Value) (xs : List α) : Prop :=
 ∀ (w : World) (M : Nat → Prop) (cs : List Value) (l : Nat) (J Jx : List α → World → Prop), (∀ b, M b → b < w.heap.size) → GlOk E w M → FitsT w M caps cs →
  (∀ pre W W', J pre W → Grow W W' → J pre W') → (∀ pre W W', Jx pre W → Grow W W' → Jx pre W') →
  (∀ pre x post W1, xs = pre ++ x :: post → BelowX M w W1 → J pre W1 → YieldAt Fence.wide 0 E.P l #[enc x] W1 fun e W' =>
   BelowX M W1 W' ∧ ((e = .returned (.bool true) ∧ J (pre ++ [x]) W') ∨ (e = .returned (.bool false) ∧ Jx (pre ++ [x]) W'))) →
  J [] w → CallsIn Fence.wide 0 E.P g (#[.func (.yield l) #[] #[]] ++ cs.toArray) w fun e W' => (∃ v, e = .returned v) ∧ (J xs W' ∨ ∃ pre, pre <+: xs ∧ Jx pre W')
def Env.turn (E : Env) (lp : Nat) (mem : Mem) (x : Nat → Option Own) : Env := ⟨E.P, E.gl, E.orders, mem.map fun p => (p.1, x p.1), some lp, false⟩
theorem Con.turn {f : FuncId} {args : List G} {r : G} {lp : Nat} {mem : Mem} {x : Nat → Option Own} (h : Con E f args r) : Con (E.turn lp mem x) f args r := h
theorem ConB.turn {f : FuncId} {args : List TV} {r : G} {m m' : Mem} {lp : Nat} {mem : Mem} {x : Nat → Option Own} (h : ConB E f args m r m') : ConB (E.turn lp mem x) f args m r m' := h
theorem mrel_turn {mem : Mem} {ρ : Rho} {W : World} {Mo : Nat → Prop} {x : Nat → Option Own} (lp : Nat) (hMo : ∀ b, Mo b → b < W.heap.size) (hgl : GlOk E W Mo)
  (hdom : ∀ id y, ρ id = some y → ∃ blk, lookO mem id = some blk) (hx : ∀ id blk, lookO mem id = some blk → ρ id = some (x id)) (hsub : ∀ id ow, ρ id = some (some ow) → Mo ow.b)
  (hinj : ∀ id id' ow ow', ρ id = some (some ow) → ρ id' = some (some ow') → ow.b = ow'.b → id = id') (hblk : ∀ id blk, lookO mem id = some blk → BRel W Mo ρ id blk) :
  owned (fun b => Mo b ∧ ¬ ∃ id ow, ρ id = some (some ow) ∧ ow.b = b) ρ = Mo ∧ (∀ b, (E.turn lp mem x).lent b ↔ ∃ id ow, ρ id = some (some ow) ∧ ow.b = b) ∧
  MRel (E.turn lp mem x) W (fun b => Mo b ∧ ¬ ∃ id ow, ρ id = some (some ow) ∧ ow.b = b) ρ mem W := by
 have hown : owned (fun b => Mo b ∧ ¬ ∃ id ow, ρ id = some (some ow) ∧ ow.b = b) ρ = Mo := by
  funext b
  apply propext
  constructor
  ·rintro (h | ⟨id, o, h, rfl⟩)
   ·exact h.1
   ·exact hsub _ _ h
  ·intro h
   by_cases hb : ∃ id ow, ρ id = some (some ow) ∧ ow.b = b
   ·obtain ⟨id, ow, h1, h2⟩ := hb; exact .inr ⟨id, ow, h1, h2⟩
   ·exact .inl ⟨h, hb⟩
 have hback : ∀ id y, ρ id = some y → lookO (E.turn lp mem x).bow id = some y := fun id y h => by
  obtain ⟨b, hb⟩ := hdom id y h;refine (lookO_mapk x).2 ⟨⟨b, hb⟩, ?_⟩;have := hx id b hb;rw [h] at this; cases this; rfl
 have hkeep : ∀ id y, lookO (E.turn lp mem x).bow id = some y → ρ id = some y := fun id y h => by
  obtain ⟨⟨b, h1⟩, rfl⟩ := (lookO_mapk x).1 h;exact hx id b h1
 have hlent : ∀ b, (E.turn lp mem x).lent b ↔ ∃ id ow, ρ id = some (some ow) ∧ ow.b = b := fun b =>
  ⟨fun ⟨id, ow, h1, h2⟩ => ⟨id, ow, hkeep id _ h1, h2⟩, fun ⟨id, ow, h1, h2⟩ => ⟨id, ow, hback id _ h1, h2⟩⟩
 refine ⟨hown, hlent, BelowX.refl _ W, fun b h => hMo b h.1, by rw [hown]; exact hgl, hdom, fun id ow ho => ⟨.inr ((hlent _).2 ⟨id, ow, ho, rfl⟩), hMo _ (hsub _ _ ho)⟩, hinj, hkeep, ?_, by rw [hown]; exact hblk⟩;intro b hb hM;exact hM.2 ((hlent b).1 hb)
def sameIds (m m' : Mem) : Prop := m'.map (·.1) = m.map (·.1)
def goodM (m : Mem) : Bool := m.all fun q => q.2.live && q.2.ground
def liveM (m : Mem) : Bool := m.all fun q => q.2.live
theorem look_ids {m : Mem} {id : Nat} : (∃ b, lookO m id = some b) ↔ id ∈ m.map (·.1) := by
 induction m with
 | nil => simp [lookO]
 | cons q m ih =>
  obtain ⟨k, v⟩ := q;simp only [lookO, List.map_cons, List.mem_cons]
  rcases Bool.eq_false_or_eq_true (Nat.beq k id) with hk | hk
  ·rw [hk]; have := Nat.eq_of_beq_eq_true hk; simp [this]
  ·rw [hk]
   have : id ≠ k := fun e => by subst e; rw [Nat.beq_refl] at hk; cases hk
   simp only [cond_false, ih, this, false_or]
def RoundQ {α γ : Type} (m : γ → Mem) (I : List α → γ → Prop) (Px : Code → List α → Mem → Prop) (m0 : Mem) (pre : List α) : Exit → ASt → Prop
 | .normal, s => ∃ g, I pre g ∧ MemL s (m g)
 | .ret, s => ∃ mx, Px .ret pre mx ∧ sameIds m0 mx ∧ goodM mx = true ∧ MemL s mx
 | .exit id, s => ∃ mx, Px (.exit id) pre mx ∧ sameIds m0 mx ∧ goodM mx = true ∧ MemL s mx
 | _, _ => False
def Jm (ρ : Rho) (Mo : Nat → Prop) (lp D : Nat) (w : World) (st : Obj) (m : Mem) (W : World) : Prop :=
 BelowX (fun b => b = lp ∨ ∃ id ow, ρ id = some (some ow) ∧ ow.b = b) w W ∧ (∀ id blk, lookO m id = some blk → BRel W Mo ρ id blk) ∧ W.heap[lp]? = some st ∧ W.heap[D]? = some (.deferred (some []))
theorem Jm.grow {ρ : Rho} {Mo : Nat → Prop} {lp D : Nat} {w W W' : World} {st : Obj} {m : Mem} (hsub : ∀ id ow, ρ id = some (some ow) → ow.b < w.heap.size) (h : Jm ρ Mo lp D w st m W) (hg : Grow W W') : Jm ρ Mo lp D w st m W' := by
 obtain ⟨h1, h2, h3, h4⟩ := h;refine ⟨h1.trans (BelowX.of_grow hg), fun id blk hb => ?_, (hg.block lp (Array.getElem?_eq_some_iff.1 h3).1).trans h3, (hg.block D (Array.getElem?_eq_some_iff.1 h4).1).trans h4⟩;exact (h2 id blk hb).mono none (by simp) (noref_none _) (fun ow ho => hg.block _ (Nat.lt_of_lt_of_le (hsub id ow ho) h1.size)) hg.hh (fun _ _ h => h) (fun _ _ _ => rfl)
end
section
variable {E : Env} {w0 : World} {M0 : Nat → Prop}
theorem put_size (w : World) (b : Nat) (o : Obj) : (w.putObj b o).heap.size = w.heap.size := by simp [World.putObj]
theorem put_belowX (w : World) (b : Nat) (o : Obj) {L : Nat → Prop} (h : L b) : BelowX L w (w.putObj b o) :=
 ⟨rfl, rfl, rfl, Nat.le_of_eq (put_size w b o).symm, fun k _ hl => World.putObj_heap_other fun e => hl (by rw [e]; exact h)⟩
theorem aw_rangeFunc {α γ : Type} {gop : Operand} {p : Tmp} {assign body : Code} {Q : Exit → ASt → Prop} {n : Nat} {t : Nat → TV} {gf : FuncId} {caps : List G} {enc : α → Value} {xs : List α}
  (m : γ → Mem) (I : List α → γ → Prop) (g0 : γ) (S1 : γ → α → ASt) (Px : Code → List α → Mem → Prop)
  (hmk : E.mks = true) (hrn : E.rnd = none) (hk : Known E.P gf) (hp : p < n)
  (hg : ASt.eval E ⟨n, t, m g0⟩ gop = .g (.fn (.func gf) [] caps)) (hseq : Seq E gf caps enc xs)
  (hg0 : I [] g0) (hids : ∀ g, sameIds (m g0) (m g)) (hgood : ∀ g, goodM (m g) = true)
  (hassign : ∀ pre x post g, xs = pre ++ x :: post → I pre g → ∀ lp w1 M1 x1, AWp (E.turn lp (m g) x1) w1 M1 assign (fun e s' => e = .normal ∧ s' = S1 g x) ⟨n, upd p (.g (.lit (enc x))) t, m g⟩)
  (hlive1 : ∀ g x, liveM (S1 g x).mem = true)
  (hbody : ∀ pre x post g, xs = pre ++ x :: post → I pre g → ∀ lp w1 M1 x1, AWp (E.turn lp (S1 g x).mem x1) w1 M1 body (RoundQ m I Px (m g0) (pre ++ [x])) (S1 g x))
  (hdone : ∀ g, I xs g → Q .normal ⟨n, t, m g⟩)
  (hstop : ∀ c pre mx, pre <+: xs → Px c pre mx → AWp E w0 M0 c Q ⟨n, t, mx⟩) : AWp E w0 M0 (.rangeFunc gop #[p] assign body) Q ⟨n, t, m g0⟩ := by
 intro a w ha;obtain ⟨ρ, hm, hmks, ht⟩ := ha.ex
 have hF : E.F = Fence.wide := by unfold Env.F; rw [hrn]; rfl
 obtain ⟨fs, cs, hge, hfs, hcs⟩ : (G.fn (.func gf) [] caps).p w (owned M0 ρ) (a.eval gop) := by
  have := eval_rel hm ht gop;rw [hg] at this;exact this
 obtain rfl : fs = [] := by cases fs with
  | nil => rfl
  | cons => exact hfs.elim
 obtain ⟨fng, k1, k2, k3⟩ := hk;refine wpIn_rangeFunc ?_;intro fn _;obtain ⟨rec, hrec⟩ : ∃ rec : LoopState → Option Code → Loop, rec = fun st pe => { state := st, pending := pe, fn, tmps := a.tmps, params := #[p], assign, body, defers := w.heap.size } := ⟨_, rfl⟩;obtain ⟨w2, hw2⟩ : ∃ w2, (w.alloc (.deferred (some []))).alloc (.loop (rec .ready none)) = w2 := ⟨_, rfl⟩
 have hgr : Grow w w2 := by rw [← hw2]; exact (Grow.alloc w _).trans (Grow.alloc _ _)
 have hsz : w2.heap.size = w.heap.size + 2 := by rw [← hw2]; simp
 have hL : w2.heap[w.heap.size + 1]? = some (.loop (rec .ready none)) := by
  rw [← hw2]; have := World.alloc_heap_new (w.alloc (.deferred (some []))) (.loop (rec .ready none)); rwa [World.size_alloc] at this
 have hD : w2.heap[w.heap.size]? = some (.deferred (some [])) := by
  rw [← hw2]; exact (RowKit.Below.heap_alloc _ _ _ (by simp)).trans (World.alloc_heap_new w _)
 have hρlt : ∀ id ow, ρ id = some (some ow) → ow.b < w.heap.size := fun id ow h => (hm.fresh id ow h).2
 have hrun : (Instr.enterLoop fn a.tmps #[p] assign body E.F.round).run E.P w = .ok (w.heap.size + 1, [{ target := .collected w.heap.size, args := #[] }]) w2 := by
  rw [← hw2, hrec, hF]; exact run_enterLoop_outer _ _ _ _ _
 clear hw2;generalize hDD : w.heap.size = D at *;generalize hlpp : D + 1 = lp at *
 let Mo : Nat → Prop := fun b => owned M0 ρ b ∨ b = D ∨ b = lp
 let L : Nat → Prop := fun b => b = lp ∨ ∃ id ow, ρ id = some (some ow) ∧ ow.b = b
 have hLMo : ∀ b, L b → Mo b := by
  rintro b (h | ⟨id, ow, h, rfl⟩)
  ·exact .inr (.inr h)
  ·exact .inl (.inr ⟨id, ow, h, rfl⟩)
 have hsubMo : ∀ id ow, ρ id = some (some ow) → Mo ow.b := fun id ow h => .inl (.inr ⟨id, ow, h, rfl⟩)
 have hMow : ∀ b, Mo b → b < w2.heap.size := by
  rintro b (h | h | h)
  ·have := hm.lt b h; omega
  ·omega
  ·omega
 have hMoSub : ∀ b, b < w.heap.size → Mo b → owned M0 ρ b := by
  rintro b hb (h | h | h)
  ·exact h
  ·omega
  ·omega
 have hgl2 : GlOk E w2 Mo := fun g vs hgv => by
  obtain ⟨⟨g1, g2⟩, g3⟩ := hm.glob g vs hgv;refine ⟨⟨?_, by omega⟩, g3.mono hgr.hh hMoSub g1⟩;rintro (h | h | h)
  ·exact g1 h
  ·omega
  ·omega
 have hdom : ∀ gg id y, ρ id = some y → ∃ blk, lookO (m gg) id = some blk := fun gg id y h => by
  rw [look_ids, hids gg, ← look_ids]; exact hm.dom id y h
 let x0 : Nat → Option Own := fun id => (ρ id).getD none
 have hx00 : ∀ id blk, lookO (m g0) id = some blk → ρ id = some (x0 id) := fun id blk h => by
  have h1 := List.all_eq_true.1 (hgood g0) _ (lookO_mem _ h);simp only [Bool.and_eq_true] at h1;obtain ⟨y, hy⟩ := (hm.blk id blk h).has h1.1;simp only [x0, hy, Option.getD_some]
 have hx0 : ∀ mx, sameIds (m g0) mx → ∀ id blk, lookO mx id = some blk → ρ id = some (x0 id) := fun mx hs id blk h => by
  obtain ⟨b0, hb0⟩ : ∃ b0, lookO (m g0) id = some b0 := by rw [look_ids, ← hs, ← look_ids]; exact ⟨_, h⟩
  exact hx00 id b0 hb0
 have hhW : ∀ W, BelowX L w2 W → ∀ b, b < w2.heap.size → ¬ Mo b → W.heap[b]? = w2.heap[b]? := fun W h b hb hno => h.block b hb fun hl => hno (hLMo b hl)
 have htW : ∀ W, BelowX L w2 W → ∀ i, TRel W Mo ρ (t i) (a.tmps.getD i undef) := fun W h i =>
  ((ht i).mono none (by cases ASt.get ⟨n, t, m g0⟩ i <;> rfl) hgr.hh hMoSub (fun _ _ _ => rfl)).mono none (by cases ASt.get ⟨n, t, m g0⟩ i <;> rfl) (hhW W h) (fun _ _ h => h) (fun _ _ _ => rfl)
 -- behind the loop
 have back : ∀ mx W' st pe, sameIds (m g0) mx → Jm ρ Mo lp D w2 (.loop (rec st pe)) mx W' →
   ARel E w0 M0 ⟨n, t, mx⟩ { a with defers := { target := .collected D, args := #[] } :: a.defers } (W'.putObj lp (.loop { rec st pe with state := .exhausted })) := by
  rintro mx W' st pe hs ⟨j1, j2, j3, j4⟩;have hfull : BelowX L w2 (W'.putObj lp (.loop { rec st pe with state := .exhausted })) := j1.trans (put_belowX _ _ _ (.inl rfl))
  have hhw : ∀ b, b < w.heap.size → ¬ owned M0 ρ b → (W'.putObj lp (.loop { rec st pe with state := .exhausted })).heap[b]? = w.heap[b]? := fun b hb hno =>
   (hhW _ hfull b (by omega) fun h => hno (hMoSub b hb h)).trans (hgr.block b hb)
  have hsize : w.heap.size ≤ (W'.putObj lp (.loop { rec st pe with state := .exhausted })).heap.size := by have := hfull.size; omega
  refine ⟨(fun h => by rw [hmk] at h; cases h), ha.size, ρ, ⟨?_, hm.m0, ?_, ?_, ?_, hm.inj, hm.keep, hm.lentM, ?_⟩, ?_, fun i => ?_⟩
  ·refine ⟨hfull.os.trans (hgr.os.trans hm.below.os), hfull.tape.trans (hgr.tape.trans hm.below.tape), hfull.output.trans (hgr.output.trans hm.below.output), Nat.le_trans hm.below.size hsize, fun k hk' hl => ?_⟩;have hkw := Nat.lt_of_lt_of_le hk' hm.below.size;refine (hfull.block k (by omega) ?_).trans ((hgr.block k hkw).trans (hm.below.block k hk' hl));rintro (h | ⟨id, ow, h, rfl⟩)
   ·omega
   ·rcases (hm.fresh id ow h).1 with g | g
    ·omega
    ·exact hl g
  ·exact hm.glob.grow hsize hhw
  ·intro id y h;rw [look_ids, hs, ← look_ids]; exact hm.dom id y h
  ·exact fun id ow h => ⟨(hm.fresh id ow h).1, Nat.lt_of_lt_of_le (hm.fresh id ow h).2 hsize⟩
  ·intro id blk hb;refine (j2 id blk hb).mono none (by simp) (noref_none _) (fun ow ho => World.putObj_heap_other ?_) (fun b _ hno => World.putObj_heap_other ?_) (fun b _ h => .inl h) (fun _ _ _ => rfl)
   ·have := hρlt id ow ho; omega
   ·intro e; exact hno (.inr (.inr e))
  ·refine ⟨List.nodup_cons.2 ⟨fun hd => ?_, hmks.1⟩, fun d hd => ?_⟩
   ·obtain ⟨D', q1, q2, q3⟩ := hmks.2 _ hd;have hq := (Array.getElem?_eq_some_iff.1 q3.2).1;simp only [Deferred.mk.injEq, Target.collected.injEq, and_true] at q1
    omega
   rcases List.mem_cons.1 hd with rfl | hd
   ·refine ⟨D, rfl, by have := hm.below.size; omega, ?_, (World.putObj_heap_other (by omega)).trans j4⟩;rintro (h | ⟨id, ow, h, e⟩)
    ·have := hm.m0 D h; have := hm.below.size; omega
    ·have := hρlt id ow h; omega
   ·obtain ⟨D', q1, q2, q3⟩ := hmks.2 d hd;exact ⟨D', q1, q2, (G.mark D').mono q3 hhw (fun _ _ h => h)⟩
  ·exact (ht i).mono none (by cases ASt.get ⟨n, t, m g0⟩ i <;> rfl) hhw (fun _ _ h => h) (fun _ _ _ => rfl)
 refine ⟨lp, [{ target := .collected D, args := #[] }], w2, { target := .fn (.func gf) cs.toArray, args := #[.func (.yield lp) #[] #[]] }, w2, gf,
  #[.func (.yield lp) #[] #[]] ++ cs.toArray, w2, hrun, ?_, fun _ _ => trivial, ?_, env_room, ?_⟩
 ·simp only [resolve, hge]
  simp [go_sem]
 ·simp [invoke, go_sem, run_callFunc k1 k2 k3]
 rw [hF]
 refine (hseq w2 Mo cs lp (fun pre W => ∃ gg, I pre gg ∧ Jm ρ Mo lp D w2 (.loop (rec .ready none)) (m gg) W)
  (fun pre W => ∃ c mx, Px c pre mx ∧ sameIds (m g0) mx ∧ Jm ρ Mo lp D w2 (.loop (rec .done (some c))) mx W) hMow hgl2 (hcs.mono hgr.hh hMoSub)
  (fun pre W W' ⟨gg, hI, h⟩ hg' => ⟨gg, hI, h.grow (fun id ow ho => by have := hρlt id ow ho; omega) hg'⟩) (fun pre W W' ⟨c, mx, h1, h2, h3⟩ hg' => ⟨c, mx, h1, h2, h3.grow (fun id ow ho => by have := hρlt id ow ho; omega) hg'⟩) ?_ ?_).mono ?_
 ·-- ONE ROUND
  rintro pre x post W1 hxs _ ⟨gg, hI, j1, j2, j3, j4⟩;have hlpW1 : lp < W1.heap.size := (Array.getElem?_eq_some_iff.1 j3).1;have hy := run_yield (P := E.P) (args := #[enc x]) j3 (by rw [hrec]; rfl);refine ⟨_, _, _, _, hy, roundIn_of_wpIn trivial ?_⟩;clear hy
  have hfold : (((rec .ready none).params.zip #[enc x]).foldl (fun tmps (t, a) => tmps.setIfInBounds t a) (rec .ready none).tmps) = (a.put (some p) (enc x)).tmps := by rw [hrec]; simp [Act.put]
  have has : (rec .ready none).assign = assign := by rw [hrec]
  have hbo : (rec .ready none).body = body := by rw [hrec]
  rw [hfold, has, hbo];obtain ⟨o1, l1, mr1⟩ := mrel_turn (E := E) (x := x0) lp (mem := m gg) (W := W1) (Mo := Mo) (fun b h => Nat.lt_of_lt_of_le (hMow b h) j1.size) (hgl2.grow j1.size (hhW W1 j1)) (hdom gg) (hx0 _ (hids gg)) hsubMo hm.inj j2;generalize hM1 : (fun b => Mo b ∧ ¬ ∃ id ow, ρ id = some (some ow) ∧ ow.b = b) = M1 at *
  have ha1 : ARel (E.turn lp (m gg) x0) W1 M1 ⟨n, upd p (.g (.lit (enc x))) t, m gg⟩ { tmps := (a.put (some p) (enc x)).tmps, defers := [] } W1 := by
   refine ⟨fun _ => rfl, by rw [size_put]; exact ha.size, ρ, mr1, Marks.nil, fun i => ?_⟩;rw [o1];show TRel W1 Mo ρ (upd p (.g (.lit (enc x))) t i) ((a.put (some p) (enc x)).tmps.getD i undef);rw [getD_put a (some p) (enc x) (fun d h => by cases h; rw [ha.size]; exact hp), upd_eq]
   by_cases hpi : p = i
   ·rw [if_pos hpi, if_pos (by rw [hpi])]; exact rfl
   ·rw [if_neg hpi, if_neg (fun h => hpi (by cases h; rfl))]; exact htW W1 j1 i
  refine wpIn_mono (hassign pre x post gg hxs hI lp W1 M1 x0 _ W1 ha1) ?_;rintro e a1 W2 ⟨s', ha2, rfl, rfl⟩;obtain ⟨ρ2, hm2, _, ht2⟩ := ha2.ex
  have hnl : ¬ (E.turn lp (m gg) x0).lent lp := fun h => by obtain ⟨id, ow, h1, h2⟩ := (l1 _).1 h; have := hρlt id ow h1; omega
  have hnD : ¬ (E.turn lp (m gg) x0).lent D := fun h => by obtain ⟨id, ow, h1, h2⟩ := (l1 _).1 h; have := hρlt id ow h1; omega
  have e3 : W2.heap[lp]? = some (.loop (rec .ready none)) := (hm2.below.block lp hlpW1 hnl).trans j3;have e4 : W2.heap[D]? = some (.deferred (some [])) := (hm2.below.block D (by omega) hnD).trans j4;refine ⟨_, run_beginRound e3 (by rw [hrec]), ?_⟩;have hlpW2 : lp < W2.heap.size := Nat.lt_of_lt_of_le hlpW1 hm2.below.size;have hρ2 : ∀ id y, ρ id = some y → ρ2 id = some y := fun id y h => hm2.keep id y ((lookO_mapk x0).2 ⟨hdom gg id y h, by simp only [x0, h, Option.getD_some]⟩)
  have hne2 : ∀ id ow, ρ2 id = some (some ow) → ow.b ≠ lp := fun id ow h e => by
   rcases (hm2.fresh id ow h).1 with g | g
   ·omega
   ·exact hnl (e ▸ g)
  have hne2D : ∀ id ow, ρ2 id = some (some ow) → ow.b ≠ D := fun id ow h e => by
   rcases (hm2.fresh id ow h).1 with g | g
   ·omega
   ·exact hnD (e ▸ g)
  have hMM : ∀ b, Mo b → owned M1 ρ2 b := fun b h => by
   rw [← o1] at h
   rcases h with h | ⟨id, ow, h, rfl⟩
   ·exact .inl h
   ·exact .inr ⟨id, ow, hρ2 id _ h, rfl⟩
  have hh2 : ∀ b, b < W2.heap.size → ¬ owned M1 ρ2 b → (W2.putObj lp (.loop { rec .ready none with state := .busy })).heap[b]? = W2.heap[b]? := fun b _ hno =>
   World.putObj_heap_other fun e => hno (by rw [e]; exact hMM lp (.inr (.inr rfl)))
  have hx2 : ∀ id blk, lookO (S1 gg x).mem id = some blk → ρ2 id = some ((ρ2 id).getD none) := fun id blk h => by
   obtain ⟨y, hy⟩ := (hm2.blk id blk h).has (List.all_eq_true.1 (hlive1 gg x) _ (lookO_mem _ h));rw [hy]; rfl
  obtain ⟨o2, l2, mr2⟩ := mrel_turn (E := E) (x := fun id => (ρ2 id).getD none) lp (mem := (S1 gg x).mem) (W := W2.putObj lp (.loop { rec .ready none with state := .busy })) (Mo := owned M1 ρ2) (fun b h => by rw [put_size]; exact hm2.lt b h)
   (GlOk.grow (E := E) hm2.glob (by rw [put_size]; exact Nat.le_refl _) hh2) hm2.dom hx2 (fun id ow h => .inr ⟨id, ow, h, rfl⟩) hm2.inj
   (fun id blk hb => (hm2.blk id blk hb).mono none (by simp) (noref_none _) (fun ow ho => World.putObj_heap_other (hne2 id ow ho)) hh2 (fun _ _ h => h) (fun _ _ _ => rfl))
  generalize hM2 : (fun b => owned M1 ρ2 b ∧ ¬ ∃ id ow, ρ2 id = some (some ow) ∧ ow.b = b) = M2 at *;have had : a1.defers = [] := ha2.defers rfl
  have ha3 : ARel (E.turn lp (S1 gg x).mem fun id => (ρ2 id).getD none) (W2.putObj lp (.loop { rec .ready none with state := .busy })) M2 (S1 gg x) a1 (W2.putObj lp (.loop { rec .ready none with state := .busy })) := by
   refine ⟨fun _ => had, ha2.size, ρ2, mr2, by rw [had]; exact Marks.nil, fun i => ?_⟩;rw [o2];exact (ht2 i).mono none (by cases (S1 gg x).get i <;> rfl) hh2 (fun _ _ h => h) (fun _ _ _ => rfl)
  refine wpIn_mono (hbody pre x post gg hxs hI lp _ M2 _ a1 _ ha3) ?_;rintro e2 a2 W3 ⟨s3, ha4, hq⟩;obtain ⟨ρ3, hm3, _, _⟩ := ha4.ex
  have hnl2 : ¬ (E.turn lp (S1 gg x).mem fun id => (ρ2 id).getD none).lent lp := fun h => by obtain ⟨id, ow, h1, h2⟩ := (l2 _).1 h; exact hne2 id ow h1 h2
  have hnD2 : ¬ (E.turn lp (S1 gg x).mem fun id => (ρ2 id).getD none).lent D := fun h => by obtain ⟨id, ow, h1, h2⟩ := (l2 _).1 h; exact hne2D id ow h1 h2
  have f3 : W3.heap[lp]? = some (.loop { rec .ready none with state := .busy }) := (hm3.below.block lp (by rw [put_size]; exact hlpW2) hnl2).trans (World.putObj_heap_same hlpW2);have f4 : W3.heap[D]? = some (.deferred (some [])) := (hm3.below.block D (by rw [put_size]; omega) hnD2).trans ((World.putObj_heap_other (by omega)).trans e4)
  have b13 : BelowX L W1 W3 := by
   have hb := hm3.below;have hb2 := hm2.below;refine ⟨hb.os.trans hb2.os, hb.tape.trans hb2.tape, hb.output.trans hb2.output, by have := hb.size; rw [put_size] at this; exact Nat.le_trans hb2.size this, fun k hk hl => ?_⟩;refine (hb.block k (by rw [put_size]; exact Nat.lt_of_lt_of_le hk hb2.size) ?_).trans ((World.putObj_heap_other fun e => hl (.inl e)).trans (hb2.block k hk fun h => hl (.inr ((l1 k).1 h))));intro h;obtain ⟨id, ow, h1, rfl⟩ := (l2 _).1 h
   rcases (hm2.fresh id ow h1).1 with g | g
   ·omega
   ·exact hl (.inr ((l1 _).1 g))
  have fin : ∀ (mx : Mem) (jump : Option Code), sameIds (m g0) mx → goodM mx = true → MemL s3 mx →
    ∃ W4, (Instr.endRound lp jump).run E.P W3 = .ok (.bool jump.isNone) W4 ∧ BelowX Mo W1 W4 ∧ Jm ρ Mo lp D w2 (.loop (rec (if jump.isNone then .ready else .done) jump)) mx W4 := by
   intro mx jump hs hgd hml;have hr := run_endRound (P := E.P) jump f3
   have hrr : ({ ({ rec .ready none with state := .busy } : Loop) with state := if jump.isNone then .ready else .done, pending := jump } : Loop) = rec (if jump.isNone then .ready else .done) jump := by rw [hrec]
   rw [hrr] at hr;have b14 : BelowX L W1 (W3.putObj lp (.loop (rec (if jump.isNone then .ready else .done) jump))) := b13.trans (put_belowX _ _ _ (.inl rfl));refine ⟨_, hr, b14.mono hLMo, j1.trans b14, fun id blk hb => ?_, World.putObj_heap_same (Array.getElem?_eq_some_iff.1 f3).1, (World.putObj_heap_other (by omega)).trans f4⟩;have hρid := hx0 mx hs id blk hb;have hρ2id := hρ2 id _ hρid;have hρ3 : ∀ id y, ρ2 id = some y → ρ3 id = some y := fun id y h => hm3.keep id y ((lookO_mapk (fun id => (ρ2 id).getD none)).2 ⟨hm2.dom id y h, by simp only [h, Option.getD_some]⟩)
   have hsub3 : ∀ b, Mo b → owned M2 ρ3 b := fun b h => by
    have h1 := hMM b h;rw [← o2] at h1
    rcases h1 with h1 | ⟨id, ow, h1, rfl⟩
    ·exact .inl h1
    ·exact .inr ⟨id, ow, hρ3 id _ h1, rfl⟩
   have hgr2 := List.all_eq_true.1 hgd _ (lookO_mem _ hb);simp only [Bool.and_eq_true] at hgr2;have h5 : BRel W3 Mo ρ id blk := BRel.ground hgr2.2 (hρid.trans (hρ3 id _ hρ2id).symm) ((hm3.blk id blk (memL_look hml id blk hb)).sub hsub3);exact h5.mono none (by simp) (noref_none _) (fun ow ho => World.putObj_heap_other (by have := hρlt id ow ho; omega)) (fun b _ hno => World.putObj_heap_other fun e => hno (.inr (.inr e))) (fun _ _ h => h) (fun _ _ _ => rfl)
  cases e2 with
  | normal =>
   obtain ⟨g', hI', hq⟩ := hq;obtain ⟨W4, g1, g2, g3⟩ := fin (m g') none (hids _) (hgood _) hq;exact ⟨_, W4, g1, g2, .inl ⟨rfl, g', hI', g3⟩⟩
  | ret =>
   obtain ⟨mx, q1, q2, q3, q4⟩ := hq;obtain ⟨W4, g1, g2, g3⟩ := fin mx (some .ret) q2 q3 q4;exact ⟨_, W4, g1, g2, .inr ⟨rfl, _, mx, q1, q2, g3⟩⟩
  | exit id =>
   obtain ⟨mx, q1, q2, q3, q4⟩ := hq;obtain ⟨W4, g1, g2, g3⟩ := fin mx (some (.exit id)) q2 q3 q4;exact ⟨_, W4, g1, g2, .inr ⟨rfl, _, mx, q1, q2, g3⟩⟩
  | _ => exact hq.elim
 ·-- AT THE START
  refine ⟨g0, hg0, BelowX.refl _ w2, fun id blk hb => ?_, hL, hD⟩;exact (hm.blk id blk hb).mono none (by simp) (noref_none _) (fun ow ho => hgr.block _ (by have := hρlt id ow ho; omega)) hgr.hh hMoSub (fun _ _ _ => rfl)
 ·-- BEHIND THE ITERATOR
  rintro e W' ⟨⟨v, rfl⟩, ⟨gg, hI, hJ⟩ | ⟨pre, hpre, c, mx, q1, q2, hJ⟩⟩
  ·refine ⟨none, _, ?_, _, back _ _ _ _ (hids gg) hJ, hdone gg hI⟩;have := run_endLoop (P := E.P) hJ.2.2.1 (by rw [hrec]; simp);rw [this, hrec]
  ·have hl := run_endLoop (P := E.P) hJ.2.2.1 (by rw [hrec]; simp);have hb := hstop c pre mx hpre q1 _ _ (back _ _ _ _ q2 hJ);rw [hF] at hb
   have hpe : (rec .done (some c)).pending = some c := by rw [hrec]
   refine ⟨some c, _, ?_, hb⟩;rw [hl];subst hrec
   rfl
end
section
variable {E : Env} {w0 : World} {M0 : Nat → Prop}
theorem cells_taken {w : World} {D : Nat} (hD : w.heap[D]? = some (.deferred (some []))) (o : Obj) : CellsAs w (w.putObj D o) := by
 intro a v h
 by_cases hb : a.block = D
 ·unfold World.cell? at h;rw [hb, hD] at h
  cases h
 ·unfold World.cell? at h ⊢;rw [World.putObj_heap_other hb];exact h
def G.inert (r : G) : Prop := ∀ (w : World) M u D o, r.p w M u → w.heap[D]? = some (.deferred (some [])) → r.p (w.putObj D o) M u
theorem inert_lit (v : Value) : (G.lit v).inert := fun _ _ _ _ _ h _ => h
theorem fits_inert : ∀ {cs : List G}, (∀ c ∈ cs, c.inert) → ∀ {w : World} {M : Nat → Prop} {vs : List Value} {D : Nat} {o : Obj}, Fits w M cs vs → w.heap[D]? = some (.deferred (some [])) → Fits (w.putObj D o) M cs vs
 | [], _, _, _, [], _, _, h, _ => h
 | c :: cs, hc, w, M, v :: vs, D, o, h, hD => ⟨⟨hc c List.mem_cons_self _ _ _ _ _ h.1.1 hD, h.1.2⟩, fits_inert (fun x hx => hc x (List.mem_cons_of_mem _ hx)) h.2 hD⟩
 | [], _, _, _, _ :: _, _, _, h, _ => h.elim
 | _ :: _, _, _, _, [], _, _, h, _ => h.elim
theorem fitsT_inert : ∀ {cs : List G}, (∀ c ∈ cs, c.inert) → ∀ {w : World} {M : Nat → Prop} {vs : List Value} {D : Nat} {o : Obj}, FitsT w M cs vs → w.heap[D]? = some (.deferred (some [])) → FitsT (w.putObj D o) M cs vs
 | [], _, _, _, [], _, _, h, _ => h
 | c :: cs, hc, w, M, v :: vs, D, o, h, hD => ⟨hc c List.mem_cons_self _ _ _ _ _ h.1 hD, fitsT_inert (fun x hx => hc x (List.mem_cons_of_mem _ hx)) h.2 hD⟩
 | [], _, _, _, _ :: _, _, _, h, _ => h.elim
 | _ :: _, _, _, _, [], _, _, h, _ => h.elim
theorem inert_agg {cs : List G} (h : ∀ c ∈ cs, c.inert) : (G.agg cs).inert := fun _ _ _ _ _ ⟨vs, h1, h2⟩ hD => ⟨vs, h1, fits_inert h h2 hD⟩
theorem inert_tup {cs : List G} (h : ∀ c ∈ cs, c.inert) : (G.tup cs).inert := fun _ _ _ _ _ ⟨vs, h1, h2⟩ hD => ⟨vs, h1, fitsT_inert h h2 hD⟩
theorem inert_nil : ∀ c ∈ ([] : List G), c.inert := fun _ h => by cases h
theorem inert_cons {c : G} {cs : List G} (h : c.inert) (hs : ∀ c ∈ cs, c.inert) : ∀ x ∈ c :: cs, x.inert := fun x hx => by
 rcases List.mem_cons.1 hx with rfl | hx
 ·exact h
 ·exact hs x hx
theorem leaves_marks {P : Program} {fn : Func} {tmps : Array Value} {w : World} {M : Nat → Prop} {r : G} {v : Value} (hin : r.inert) : ∀ (ds : List Deferred) (w1 : World), ds.Nodup →
  (∀ d ∈ ds, ∃ D, d = { target := .collected D, args := #[] } ∧ w.heap.size ≤ D ∧ w1.heap[D]? = some (.deferred (some []))) → Grow w w1 → (∀ w', CellsAs w1 w' → (results fn tmps).run P w' = .ok v w') → r.p w1 M v →
  LeavesInM Fence.wide 0 P fn tmps (fun e w'' => ∃ v, e = .returned v ∧ Grow w w'' ∧ r.p w'' M v) ds .returning w1
 | [], w1, _, _, hg, hr, hp => ⟨v, hr w1 (fun _ _ h => h), v, rfl, hg, hp⟩
 | d :: ds, w1, hn, hd, hg, hr, hp => by
  obtain ⟨D, rfl, hlt, hD⟩ := hd _ List.mem_cons_self;obtain ⟨hn1, hn2⟩ := List.nodup_cons.1 hn;refine ⟨by simp, .inl ⟨D, _, rfl, run_takeDeferred hD, ?_⟩⟩;refine leaves_marks hin ds _ hn2 (fun d' hd' => ?_) ?_ (fun w' hw => hr w' fun a u hu => hw a u (cells_taken hD _ a u hu)) (hin _ _ _ _ _ hp hD)
  ·obtain ⟨D', rfl, hlt', hD'⟩ := hd d' (List.mem_cons_of_mem _ hd');exact ⟨D', rfl, hlt', (World.putObj_heap_other (fun e => hn1 (by rw [← e]; exact hd'))).trans hD'⟩
  ·exact ⟨hg.os, hg.tape, hg.output, by rw [put_size]; exact hg.size, fun k hk => (World.putObj_heap_other (by omega)).trans (hg.block k hk)⟩
def Env.mked (E : Env) : Env := ⟨E.P, E.gl, E.orders, E.bow, E.rnd, true⟩
theorem Con.mked {f : FuncId} {args : List G} {r : G} (h : Con E f args r) : Con E.mked f args r := h
theorem ConB.mked {f : FuncId} {args : List TV} {r : G} {m m' : Mem} (h : ConB E f args m r m') : ConB E.mked f args m r m' := h
theorem con_of_awm {f : FuncId} {fn : Func} {c : Code} {args : List G} {r : G} (hf : E.P.funcs[f]? = some fn) (hb : fn.body = some c) (hn0 : Nat.ble args.length fn.ntmps = true) (hin : r.inert)
  (h : ∀ w0 M0, AWp E.mked w0 M0 c (Done E.mked fn r) ⟨fn.ntmps, initT args, []⟩) (hbw : E.bow = [] := by rfl) (hrn : E.rnd = none := by rfl) : Con E f args r := by
 intro w M vs hM hgl hv;have hn := Nat.le_of_ble_eq_true hn0;have hlen := hv.length
 have hF : E.mked.F = Fence.wide := by unfold Env.F Env.mked; rw [hrn]; rfl
 suffices hci : CallsIn Fence.wide 0 E.P f vs.toArray w (fun e w' => ∃ v, e = .returned v ∧ Grow w w' ∧ r.p w' M v) from callsIn_wide.1 hci
 refine callsIn_of_wp_marks hf hb trivial ?_ rfl
 have ha : ARel E.mked w M ⟨fn.ntmps, initT args, []⟩ { tmps := vs.toArray ++ Array.replicate (fn.ntmps - vs.toArray.size) undef, defers := [] } w := by
  refine ⟨fun _ => rfl, ?_, fun _ => none, ?_, Marks.nil, ?_⟩
  ·simp; omega
  ·refine ⟨BelowX.refl _ w, hM, ?_, ?_, ?_, ?_, (fun id x h => by rw [show E.mked.bow = [] from hbw] at h; cases h), (fun b h => absurd h (lent_nil hbw)), ?_⟩
   ·intro g vs hg;have := hgl g vs hg
    have hiff : ∀ b, owned M (fun _ => none) b → M b := by rintro b (h | ⟨_, _, h, _⟩); exact h; cases h
    exact ⟨⟨fun h => this.1.1 (hiff _ h), this.1.2⟩, this.2.mono (fun _ _ _ => rfl) (fun b _ h => hiff b h) this.1.1⟩
   ·intro _ _ h; cases h
   ·intro _ _ h; cases h
   ·intro _ _ _ _ h; cases h
   ·intro _ _ h; cases h
  ·intro i;have hv' : FitsT w (owned M (fun _ => none)) args vs := hv.mono (fun _ _ _ => rfl) (by rintro b _ (h | ⟨_, _, h, _⟩); exact h; cases h);have := initT_rel (ρ := fun _ => none) (fn.ntmps - vs.length) hv' i;show TRel _ _ _ (initT args i) _;rw [Array.getD_eq_getD_getElem?];rw [show (vs.toArray ++ Array.replicate (fn.ntmps - vs.toArray.size) undef) = (vs ++ List.replicate (fn.ntmps - vs.length) undef).toArray by simp];rw [List.getElem?_toArray];exact this
 have hw := h w M _ w ha;rw [hF] at hw;refine wpIn_mono hw ?_;rintro e a' w' ⟨s', ha', hq⟩
 have fin : ResOk E.mked fn s' r → LeavesInM Fence.wide 0 E.P fn a'.tmps (fun e w'' => ∃ v, e = .returned v ∧ Grow w w'' ∧ r.p w'' M v) a'.defers .returning w' := by
  intro hq;obtain ⟨ρ, hm, hmk, ht⟩ := ha'.ex;obtain ⟨v, h1, h2, h3⟩ := hq.run ρ w' a'.tmps hm ht;have hg : Grow w w' := hm.below.grow (fun _ => lent_nil hbw)
  exact leaves_marks hin a'.defers w' hmk.1 (fun d hd => by
   obtain ⟨D, q1, q2, q3⟩ := hmk.2 d hd
   exact ⟨D, q1, q2, q3.2⟩) hg h3 (r.mono h2 (fun _ _ _ => rfl) (fun _ _ h => .inl h))
 cases e with
 | ret => exact fin hq
 | normal => exact fin hq
 | _ => exact hq.elim
end
section
variable {E : Env} {w0 : World} {M0 : Nat → Prop}
def RoundC {γ : Type} (E : Env) (w0 : World) (M0 : Nat → Prop) (Q : Exit → ASt → Prop) (n : Nat) (t : Nat → TV) (m : γ → Mem) (K : γ → Prop) (m0 : Mem) : Exit → ASt → Prop
 | .normal, s => ∃ g, K g ∧ MemL s (m g)
 | .ret, s => ∃ mx, AWp E w0 M0 .ret Q ⟨n, t, mx⟩ ∧ sameIds m0 mx ∧ goodM mx = true ∧ MemL s mx
 | .exit id, s => ∃ mx, AWp E w0 M0 (.exit id) Q ⟨n, t, mx⟩ ∧ sameIds m0 mx ∧ goodM mx = true ∧ MemL s mx
 | _, _ => False
theorem aw_rangeC {α γ : Type} {gop : Operand} {p : Tmp} {assign body : Code} {Q : Exit → ASt → Prop} {n : Nat} {l : List (Nat × TV)} {gf : FuncId} {caps : List G} {enc : α → Value} {s : ASt}
  (xs : List α) (m : γ → Mem) (K : List α → γ → Prop) (g0 : γ) (S1 : γ → α → (Nat → TV) × Mem)
  (hn : s.n = n) (hwk : WeakL s l) (hwm : MemL s (m g0)) (hcl : closedB l (m g0) = true)
  (hg : ASt.eval E ⟨n, lookT l, m g0⟩ gop = .g (.fn (.func gf) [] caps)) (hk : Known E.P gf) (hseq : Seq E gf caps enc xs)
  (hK0 : K xs g0) (hp : Nat.blt p n = true) (hids : ∀ g, sameIds (m g0) (m g)) (hgood : ∀ g, goodM (m g) = true)
  (hassign : ∀ x g lp w1 M1 x1, AWp (E.turn lp (m g) x1) w1 M1 assign (fun e s' => e = .normal ∧ s' = ⟨n, (S1 g x).1, (S1 g x).2⟩) ⟨n, upd p (.g (.lit (enc x))) (lookT l), m g⟩)
  (hlive1 : ∀ g x, liveM (S1 g x).2 = true)
  (hbody : ∀ x post g, (∃ pre, xs = pre ++ x :: post) → K (x :: post) g → ∀ lp w1 M1 x1, AWp (E.turn lp (S1 g x).2 x1) w1 M1 body (RoundC E w0 M0 Q n (lookT l) m (K post) (m g0)) ⟨n, (S1 g x).1, (S1 g x).2⟩)
  (hdone : ∀ g, K [] g → Q .normal ⟨n, lookT l, m g⟩)
  (hbw : bowIn E (m g0) = true := by rfl) (hmk : E.mks = true := by rfl) (hrn : E.rnd = none := by rfl) : AWp E w0 M0 (.rangeFunc gop #[p] assign body) Q s := by
 refine aw_weak (l := l) hwk hwm hcl ?_ hbw;show AWp E w0 M0 _ Q ⟨s.n, lookT l, m g0⟩;rw [hn];refine aw_rangeFunc m (fun pre g => ∃ tl, xs = pre ++ tl ∧ K tl g) g0 (fun g x => ⟨n, (S1 g x).1, (S1 g x).2⟩) (fun c _ mx => AWp E w0 M0 c Q ⟨n, lookT l, mx⟩) hmk hrn hk (Nat.le_of_ble_eq_true hp) hg hseq ⟨xs, rfl, hK0⟩ hids hgood
  (fun pre x post g _ _ lp w1 M1 x1 => hassign x g lp w1 M1 x1) hlive1 ?_ ?_ (fun _ _ _ _ h => h)
 ·rintro pre x post g hxs ⟨tl, htl, hK⟩ lp w1 M1 x1;obtain rfl : tl = x :: post := List.append_cancel_left (htl.symm.trans hxs);refine (hbody x post g ⟨pre, hxs⟩ hK lp w1 M1 x1).mono ?_;rintro e s' h
  cases e with
  | normal =>
   obtain ⟨g', h1, h2⟩ := h;exact ⟨g', ⟨post, by rw [hxs]; simp, h1⟩, h2⟩
  | ret => exact h
  | exit id => exact h
  | _ => exact h
 ·rintro g ⟨tl, htl, hK⟩
  obtain rfl : tl = [] := by
   have := congrArg List.length htl
   simp at this
   exact this
  exact hdone g hK
end
section
variable {E : Env}
theorem rv_cell1 {s : ASt} {t : Nat} {ty : TypeId} {k id : Nat} {tv : TV} {g : G} (hp : s.get t = .ptr id 0) (hb : lookO s.mem id = some (.box [tv])) (ht : tyK E.P ty = some (k, false)) (hv : viewG s.mem tv = some g) (hbw : viewB E tv = true := by rfl) : RVal E s (.cell t ty) g := by
 intro w0 M0 ρ w tmps hm hx;have h1 := hx t;rw [hp] at h1;obtain ⟨ow, h2, h3⟩ := h1;obtain ⟨ow', e, vs, g1, g2, g3, g4⟩ := hm.blk id _ hb
 have : ow' = ow := by rw [h2] at g1; simpa using g1.symm
 subst this;obtain ⟨v, h4, h5, _⟩ := TFits.get 0 g4 rfl
 have hc : w.cell? ⟨ow'.b, ow'.o + 0, none⟩ = some v := by rw [cell_of_row w _ _ _ _ _ g3, g2]; simpa using h4
 refine ⟨v, ?_, view_rel hm h5 hv (msub_res hm hbw), ?_⟩
 ·simp only [rvSem, h3, asAddr, Sem.run_bind, Sem.run_pure, Result.andThen_ok];exact run_loadVar_one ht hc
 ·intro w' hw;simp only [rvSem, h3, asAddr, Sem.run_bind, Sem.run_pure, Result.andThen_ok];exact run_loadVar_one ht (hw _ _ hc)
end
end Go.Sim
namespace Go.Proofs
open Go.RowKit Go.Shelf
attribute [local go_sem] Oper.semAt_some
def winL (s m : Int) : Nat → Int → List Int
 | 0, _ => []
 | n + 1, b => if b ≤ m then b :: winL s m n (b + s) else []
def win0 (len s m : Int) : Int := (max 0 (m - len + 1) + s - 1) / s * s
set_option maxRecDepth 100000 in
set_option maxHeartbeats 1000000 in
theorem win_in (l b0 o0 b1 o1 : Nat) (M : Nat → Prop) (m len st : Int) (hm : 0 ≤ m) (hm2 : m ≤ 143999999) (hl : 1 ≤ len) (hl2 : len ≤ 1440) (hs : 1 ≤ st) (hs2 : st ≤ 1440) (J Jx : List Int → World → Prop)
  (hJd : ∀ pre W W', J pre W → Sim.Grow W W' → J pre W')
  (w : World) (hb0 : b0 < w.heap.size ∧ ¬ M b0) (hb1 : b1 < w.heap.size ∧ ¬ M b1)
  (hY : ∀ pre x post W1, winL st m 1450 (win0 len st m) = pre ++ x :: post → Sim.BelowX M w W1 → J pre W1 → YieldAt Fence.wide 0 Tryz.prog l #[.int .i64 x] W1 fun e W' =>
   Sim.BelowX M W1 W' ∧ ((e = .returned (.bool true) ∧ J (pre ++ [x]) W') ∨ (e = .returned (.bool false) ∧ Jx (pre ++ [x]) W')))
  (c0 : w.cell? ⟨b0, o0, none⟩ = some (.int .i64 m)) (c1 : w.cell? ⟨b1, o1 + 2, none⟩ = some (.int .i64 len)) (c2 : w.cell? ⟨b1, o1 + 3, none⟩ = some (.int .i64 st)) (h0 : J [] w) :
  CallsIn Fence.wide 0 Tryz.prog 156 #[.func (.yield l) #[] #[], .pointer (some ⟨b0, o0, none⟩), .pointer (some ⟨b1, o1, none⟩)] w fun e W' => (∃ v, e = .returned v) ∧
   (J (winL st m 1450 (win0 len st m)) W' ∨ ∃ pre, pre <+: winL st m 1450 (win0 len st m) ∧ Jx pre W') := by
 refine callsIn_of_wp Tryz.func156 rfl trivial ?_ rfl;simp only [Tryz.ntmps156, List.size_toArray, List.length_cons, List.length_nil, Nat.reduceAdd, Nat.reduceSub, Array.replicate_succ, Array.replicate_zero, List.push_toArray, List.append_toArray, List.nil_append, List.cons_append]
 have hwin : ∀ a : Int, 0 ≤ a → a ≤ 143999999 → max 0 (m - len + 1) = a → IntKind.i64.wrap ((a + st - 1) / st * st) = win0 len st m ∧ 0 ≤ win0 len st m ∧ win0 len st m ≤ 145000000 ∧ m - len + 1 ≤ win0 len st m := by
  intro a h0 h1 h2;have e0 : (a + st - 1) % st + st * ((a + st - 1) / st) = a + st - 1 := Int.emod_add_mul_ediv _ _;have e1 := Int.emod_nonneg (a + st - 1) (show st ≠ 0 by omega);have e2 := Int.emod_lt_of_pos (a + st - 1) (show 0 < st by omega)
  have e3 : win0 len st m = (a + st - 1) / st * st := by unfold win0; rw [h2]
  rw [e3, Int.mul_comm ((a + st - 1) / st) st];generalize st * ((a + st - 1) / st) = q at *;generalize (a + st - 1) % st = r at *;refine ⟨?_, by omega, by omega, by omega⟩;exact Sim.wrap_i64 (by unfold Sim.I64; omega)
 gi_wp2
 case inr h =>
  obtain ⟨hE, hE0, hE1, hE2⟩ := hwin 0 (by omega) (by omega) (by omega);rw [show (0 + st - 1 : Int) = st - 1 by omega] at hE;refine wpIn_region_quiet_lit rfl (by kernel_rfl) (by kernel_rfl) ?_
  repeat (gi_big_quiet_step (fail))
  refine wpQuietIn_nil ?_;intro _ hw';obtain ⟨nq, hw''⟩ := hw';subst hw''
  gi_wp2
  gi_loopw [5] (fun p wr => ∃ (pre : List Int) (k : Nat) (d : Int), p = .int .i64 d ∧ 0 ≤ d ∧ d ≤ 145001440 ∧ m + 1 - d ≤ (k : Int) ∧ winL st m 1450 (win0 len st m) = pre ++ winL st m k d ∧ Sim.BelowX M w wr ∧ J pre wr)
   (fun p _ => (m + 1 - intOf p).toNat)
  case atStart => exact ⟨[], 1450, win0 len st m, rfl, hE0, by omega, by omega, rfl, ⟨rfl, rfl, rfl, Nat.le_refl _, fun _ _ _ => rfl⟩, hJd _ _ _ h0 ⟨rfl, rfl, rfl, Nat.le_refl _, fun _ _ => rfl⟩⟩
  case round =>
   obtain ⟨pre, k, d, rfl, hd1, hd2, hk, hx, hB, hJs⟩ := hrel
   have cell : ∀ b o v, b < w.heap.size → ¬ M b → w.cell? ⟨b, o, none⟩ = some v → wr.cell? ⟨b, o, none⟩ = some v := fun b o v h1 h2 h3 => by
    have := hB.block b h1 h2;unfold World.cell? at h3 ⊢;rw [this]; exact h3
   have c0' := cell _ _ _ hb0.1 hb0.2 c0;have c1' := cell _ _ _ hb1.1 hb1.2 c1;have c2' := cell _ _ _ hb1.1 hb1.2 c2;clear c0 c1 c2
   by_cases hlt : d ≤ m
   ·have hk1 : ∃ k', k = k' + 1 := ⟨k - 1, by omega⟩;obtain ⟨k', rfl⟩ := hk1
    have hs' : winL st m (k' + 1) d = d :: winL st m k' (d + st) := by rw [winL, if_pos hlt]
    rw [hs'] at hx
    obtain ⟨fn, tmps, assign, body, hy, hR'⟩ := YieldAt.mono (hY pre d _ wr hx hB hJs) (R' := fun e W' => ∃ bb : Bool, e = .returned (.bool bb) ∧ Sim.BelowX M wr W' ∧ ((bb = true → J (pre ++ [d]) W') ∧ (bb = false → Jx (pre ++ [d]) W'))) (by
     rintro e W' ⟨k0, ⟨rfl, k1⟩ | ⟨rfl, k1⟩⟩
     ·exact ⟨true, rfl, k0, (fun _ => k1), (fun h => (by cases h))⟩
     ·exact ⟨false, rfl, k0, (fun h => (by cases h)), (fun _ => k1)⟩)
    have X1 := Lib.hid hx; clear hx
    gi_wp2
    refine ⟨rfl, ?_⟩;refine hR'.mono ?_;rintro e W' ⟨bb, rfl, hB2, hT, hF⟩;have hBw : Sim.BelowX M w W' := ⟨hB2.os.trans hB.os, hB2.tape.trans hB.tape, hB2.output.trans hB.output, Nat.le_trans hB.size hB2.size, fun q hq hn => (hB2.block q (Nat.lt_of_lt_of_le hq hB.size) hn).trans (hB.block q hq hn)⟩
    have c2'' : W'.cell? ⟨b1, o1 + 3, none⟩ = some (.int .i64 st) := by
     have := hB2.block b1 (Nat.lt_of_lt_of_le hb1.1 hB.size) hb1.2;unfold World.cell? at c2' ⊢;rw [this]; exact c2'
    cases bb with
    | true =>
     have hJ3 := hT rfl;clear hT hF
     go_simp
     gi_wp2
     go_roundw
     case rel => exact ⟨pre ++ [d], k', d + st, rfl, by omega, by omega, by omega, by rw [X1.out]; simp, hBw, hJ3⟩
     case measure => simp [intOf]; omega
    | false =>
     have hX := hF rfl;clear hT hF
     go_simp
     gi_wp2
     refine bodyPost_ret (results_none rfl _ _ _) rfl ?_;exact ⟨⟨_, rfl⟩, .inr ⟨pre ++ [d], ⟨winL st m k' (d + st), by rw [X1.out]; simp⟩, hX⟩⟩
   ·have hs' : winL st m k d = [] := by
     cases k with
     | zero => rfl
     | succ k => rw [winL, if_neg hlt]
    rw [hs', List.append_nil] at hx;have X1 := Lib.hid hx; clear hx
    gi_wp2
    go_end0
    refine ⟨⟨_, rfl⟩, .inl ?_⟩;rw [X1.out]; exact hJs
 case inl h =>
  obtain ⟨hE, hE0, hE1, hE2⟩ := hwin (m - len + 1) (by omega) (by omega) (by omega);refine wpIn_region_quiet_lit rfl (by kernel_rfl) (by kernel_rfl) ?_
  repeat (gi_big_quiet_step (fail))
  refine wpQuietIn_nil ?_;intro _ hw';obtain ⟨nq, hw''⟩ := hw';subst hw''
  gi_wp2
  gi_loopw [5] (fun p wr => ∃ (pre : List Int) (k : Nat) (d : Int), p = .int .i64 d ∧ 0 ≤ d ∧ d ≤ 145001440 ∧ m + 1 - d ≤ (k : Int) ∧ winL st m 1450 (win0 len st m) = pre ++ winL st m k d ∧ Sim.BelowX M w wr ∧ J pre wr)
   (fun p _ => (m + 1 - intOf p).toNat)
  case atStart => exact ⟨[], 1450, win0 len st m, rfl, hE0, by omega, by omega, rfl, ⟨rfl, rfl, rfl, Nat.le_refl _, fun _ _ _ => rfl⟩, hJd _ _ _ h0 ⟨rfl, rfl, rfl, Nat.le_refl _, fun _ _ => rfl⟩⟩
  case round =>
   obtain ⟨pre, k, d, rfl, hd1, hd2, hk, hx, hB, hJs⟩ := hrel
   have cell : ∀ b o v, b < w.heap.size → ¬ M b → w.cell? ⟨b, o, none⟩ = some v → wr.cell? ⟨b, o, none⟩ = some v := fun b o v h1 h2 h3 => by
    have := hB.block b h1 h2;unfold World.cell? at h3 ⊢;rw [this]; exact h3
   have c0' := cell _ _ _ hb0.1 hb0.2 c0;have c1' := cell _ _ _ hb1.1 hb1.2 c1;have c2' := cell _ _ _ hb1.1 hb1.2 c2;clear c0 c1 c2
   by_cases hlt : d ≤ m
   ·have hk1 : ∃ k', k = k' + 1 := ⟨k - 1, by omega⟩;obtain ⟨k', rfl⟩ := hk1
    have hs' : winL st m (k' + 1) d = d :: winL st m k' (d + st) := by rw [winL, if_pos hlt]
    rw [hs'] at hx
    obtain ⟨fn, tmps, assign, body, hy, hR'⟩ := YieldAt.mono (hY pre d _ wr hx hB hJs) (R' := fun e W' => ∃ bb : Bool, e = .returned (.bool bb) ∧ Sim.BelowX M wr W' ∧ ((bb = true → J (pre ++ [d]) W') ∧ (bb = false → Jx (pre ++ [d]) W'))) (by
     rintro e W' ⟨k0, ⟨rfl, k1⟩ | ⟨rfl, k1⟩⟩
     ·exact ⟨true, rfl, k0, (fun _ => k1), (fun h => (by cases h))⟩
     ·exact ⟨false, rfl, k0, (fun h => (by cases h)), (fun _ => k1)⟩)
    have X1 := Lib.hid hx; clear hx
    gi_wp2
    refine ⟨rfl, ?_⟩;refine hR'.mono ?_;rintro e W' ⟨bb, rfl, hB2, hT, hF⟩;have hBw : Sim.BelowX M w W' := ⟨hB2.os.trans hB.os, hB2.tape.trans hB.tape, hB2.output.trans hB.output, Nat.le_trans hB.size hB2.size, fun q hq hn => (hB2.block q (Nat.lt_of_lt_of_le hq hB.size) hn).trans (hB.block q hq hn)⟩
    have c2'' : W'.cell? ⟨b1, o1 + 3, none⟩ = some (.int .i64 st) := by
     have := hB2.block b1 (Nat.lt_of_lt_of_le hb1.1 hB.size) hb1.2;unfold World.cell? at c2' ⊢;rw [this]; exact c2'
    cases bb with
    | true =>
     have hJ3 := hT rfl;clear hT hF
     go_simp
     gi_wp2
     go_roundw
     case rel => exact ⟨pre ++ [d], k', d + st, rfl, by omega, by omega, by omega, by rw [X1.out]; simp, hBw, hJ3⟩
     case measure => simp [intOf]; omega
    | false =>
     have hX := hF rfl;clear hT hF
     go_simp
     gi_wp2
     refine bodyPost_ret (results_none rfl _ _ _) rfl ?_;exact ⟨⟨_, rfl⟩, .inr ⟨pre ++ [d], ⟨winL st m k' (d + st), by rw [X1.out]; simp⟩, hX⟩⟩
   ·have hs' : winL st m k d = [] := by
     cases k with
     | zero => rfl
     | succ k => rw [winL, if_neg hlt]
    rw [hs', List.append_nil] at hx;have X1 := Lib.hid hx; clear hx
    gi_wp2
    go_end0
    refine ⟨⟨_, rfl⟩, .inl ?_⟩;rw [X1.out]; exact hJs
end Go.Proofs
namespace Go.Sim
open Go.Proofs
theorem ref_one {w : World} {M : Nat → Prop} {v : Value} {g : G} {gs : List G} (h : (G.ref (g :: gs)).p w M v) : ∃ b o, v = .pointer (some ⟨b, o, none⟩) ∧ ¬ M b ∧ Cells w M b o (g :: gs) := by
 obtain ⟨b, o, h1, h2, h3⟩ := h;exact ⟨b, o, h1, h2.resolve_left (by simp), h3⟩
theorem win_seq {g : List (Nat × List Value)} (a : S1063) (m : Int) (hm : 0 ≤ m) (hm2 : m ≤ 143999999) (hl : 1 ≤ a.Length) (hl2 : a.Length ≤ 1440) (hs : 1 ≤ a.Step) (hs2 : a.Step ≤ 1440) :
  Seq (EG g) 156 [G.ref [G.int m], G.ref [G.str a.Terminal, G.str a.Kind, G.int a.Length, G.int a.Step, G.int a.Most]] (Value.int .i64) (winL a.Step m 1450 (win0 a.Length a.Step m)) := by
 intro w M cs l J Jx hM hgl hfit hJd hJxd hY h0
 match cs, hfit with
 | [c0, c1], hf =>
  obtain ⟨h1, h2, _⟩ := hf;obtain ⟨b0, o0, rfl, k0, r0⟩ := ref_one h1;obtain ⟨b1, o1, rfl, k1, r1⟩ := ref_one h2;obtain ⟨⟨v0, e0, p0, _⟩, _⟩ := r0;obtain ⟨_, _, ⟨v2, e2, p2, _⟩, ⟨v3, e3, p3, _⟩, _⟩ := r1;have p0 : v0 = .int .i64 m := p0;have p2 : v2 = .int .i64 a.Length := p2;have p3 : v3 = .int .i64 a.Step := p3;subst p0 p2 p3;exact win_in l b0 o0 b1 o1 M m a.Length a.Step hm hm2 hl hl2 hs hs2 J Jx hJd w ⟨block_lt_of_cell e0, k0⟩ ⟨block_lt_of_cell e2, k1⟩ hY e0 e2 e3 h0
end Go.Sim
set_option maxRecDepth 10000
namespace Go.Sim
open Go.Proofs
theorem c1114 {g : List (Nat × List Value)} (a0 : S1063) (a1 : Int) : Con (EG g) 114 [G.agg [G.str a0.Terminal, G.str a0.Kind, G.int a0.Length, G.int a0.Step, G.int a0.Most], G.int a1] (G.fn (.func 156) [] [G.ref [G.int a1], G.ref [G.str a0.Terminal, G.str a0.Kind, G.int a0.Length, G.int a0.Step, G.int a0.Most]]) := by
 refine con_of_aw Tryz.func114 rfl rfl fun w0 M0 => ?_;refine aw_seq ?_;refine aw_region [.p, .p, .p] ?_;refine st rfl rfl (eff_box rfl rfl) rfl ?_;refine st rfl rfl (eff_box rfl rfl) rfl ?_;refine st rfl rfl (eff_assigng rfl rfl) rfl ?_;refine st_nil ?_;refine aw_seq ?_;refine aw_region [.p, .p] ?_;refine st rfl rfl (eff_makeF rfl rfl rfl) rfl ?_;refine st rfl rfl (eff_assigng rfl rfl) rfl ?_;refine st_nil ?_;refine aw_ret ?_;exact res_c rfl (rv_g rfl)
def winsOf (a : S1063) (m : Int) : List Int := winL a.Step m 1450 (win0 a.Length a.Step m)
theorem win_ok {g : List (Nat × List Value)} {a : S1063} {m : Int} (h : SeatOk a) (h0 : 0 ≤ m) (h1 : m ≤ 143999999) :
  Seq (EG g) 156 [G.ref [G.int m], G.ref [G.str a.Terminal, G.str a.Kind, G.int a.Length, G.int a.Step, G.int a.Most]] (Value.int .i64) (winsOf a m) :=
 win_seq a m h0 h1 h.l0 h.l1 h.s0 (by have := h.s1; have := h.l1; omega)
theorem win0_rng {a : S1063} {m : Int} (h : SeatOk a) (h0 : 0 ≤ m) (h1 : m ≤ 143999999) : 0 ≤ win0 a.Length a.Step m ∧ win0 a.Length a.Step m ≤ 145000000 ∧ m - a.Length + 1 ≤ win0 a.Length a.Step m := by
 have h2 := h.l0; have h3 := h.l1; have h4 := h.s0; have h5 := h.s1;unfold win0;have e0 : (max 0 (m - a.Length + 1) + a.Step - 1) % a.Step + a.Step * ((max 0 (m - a.Length + 1) + a.Step - 1) / a.Step) = max 0 (m - a.Length + 1) + a.Step - 1 := Int.emod_add_mul_ediv _ _;have e1 := Int.emod_nonneg (max 0 (m - a.Length + 1) + a.Step - 1) (show a.Step ≠ 0 by omega);have e2 := Int.emod_lt_of_pos (max 0 (m - a.Length + 1) + a.Step - 1) (show 0 < a.Step by omega);rw [Int.mul_comm];generalize a.Step * ((max 0 (m - a.Length + 1) + a.Step - 1) / a.Step) = q at *;generalize (max 0 (m - a.Length + 1) + a.Step - 1) % a.Step = r at *
 omega
theorem moms1111 {a : S1063} {l : List S1079} {r : S1195} (h : s1111 a l = some r) (hm : ∀ m ∈ l, MovOk m) (hl : l.length ≤ 12) {t : Int} (ht : t ∈ r.moments) : 0 ≤ t ∧ t ≤ 143999999 := by
 rw [s1111_ok a (fun m hmm => ⟨(hm m hmm).s0, (hm m hmm).s1⟩) hl] at h
 cases h
 obtain ⟨y, hy, rfl⟩ := List.mem_map.1 ht;have hy2 := hm y (List.mem_filter.1 ((isort_perm ltM (l.filter fun m => s1116 a m)).mem_iff.1 hy)).1;exact ⟨hy2.m0, hy2.m1⟩
theorem exc_in {a0 : List S1063} {a1 : List S1079} (h : ¬ s1085 [(s1029 a0), (s1027 a1)] ≠ 0) : (∀ x ∈ a0, SeatOk x) ∧ (∀ m ∈ a1, MovOk m) := by
 have h := Decidable.not_not.1 h;rw [s1085_eq, s89_zero] at h;exact ⟨(seats_ok (h (s1029 a0) (by simp))).2, (movs_ok (h (s1027 a1) (by simp))).2⟩
end Go.Sim
set_option maxRecDepth 10000
namespace Go.Sim
open Go.Proofs
def s1043_l3 (rec2 : Nat → Int → Int → Int → Int → Option (S1071 × Int)) (k6 : Nat) (y7 : S1063) (r9 : S1195) (k15 : Nat) : List Int → Int → Int → Int → Int → Option (S1071 × Int)
 | [], x18, x19, x20, x21 => rec2 (k15 + 1) x18 x19 x20 x21
 | y22 :: t23, x18, x19, x20, x21 => bindO (s1112 r9 y22 y7.Length) fun r24 => (bif decide (y7.Most < r24) then some ((S1071.mk ((k6 : Nat) : Int) y22 r24), 0) else s1043_l3 rec2 k6 y7 r9 k15 t23 x18 x19 x20 x21)
def s1043_l2 (rec1 : Nat → Int → Int → Int → Int → Option (S1071 × Int)) (k6 : Nat) (y7 : S1063) (r9 : S1195) : List Int → Nat → Int → Int → Int → Int → Option (S1071 × Int)
 | [], k15, x11, x12, x13, x14 => rec1 (k6 + 1) x11 x12 x13 x14
 | y16 :: t17, k15, x11, x12, x13, x14 => s1043_l3 (fun k_ z0_ z1_ z2_ z3_ => s1043_l2 rec1 k6 y7 r9 t17 k_ z0_ z1_ z2_ z3_) k6 y7 r9 k15 (winsOf y7 y16) x11 x12 x13 x14
def s1043_l1 (a1 : List S1079) : List S1063 → Nat → Int → Int → Int → Int → Option (S1071 × Int)
 | [], k6, x2, x3, x4, x5 => some ((S1071.mk 0 0 0), 7)
 | y7 :: t8, k6, x2, x3, x4, x5 => bindO (s1111 y7 a1) fun r9 => s1043_l2 (fun k_ z0_ z1_ z2_ z3_ => s1043_l1 a1 t8 k_ z0_ z1_ z2_ z3_) k6 y7 r9 r9.moments 0 x2 x3 x4 x5
def s1043 (a0 : List S1063) (a1 : List S1079) : Option (S1071 × Int) :=
 (bif decide ((s1085 [(s1029 a0), (s1027 a1)]) ≠ 0) then some ((S1071.mk 0 0 0), (s1085 [(s1029 a0), (s1027 a1)])) else s1043_l1 a1 a0 0 0 0 0 0)
theorem c1043 {g : List (Nat × List Value)} (a0 : List S1063) (a1 : List S1079) {R : S1071 × Int}  (hb : ¬ s1085 [(s1029 a0), (s1027 a1)] ≠ 0 → a1.length ≤ 12) (hR : s1043 a0 a1 = some R) : Con (EG g) 43 [G.sl 5 (List.map S1063.c a0), G.sl 7 (List.map S1079.c a1)] (G.tup [G.agg [G.int R.1.Limit, G.int R.1.Moment, G.int R.1.Seats], G.int R.2]) := by
 unfold s1043 at hR;refine con_of_awm Tryz.func43 rfl rfl (inert_tup (inert_cons (inert_agg (inert_cons (inert_lit _) (inert_cons (inert_lit _) (inert_cons (inert_lit _) inert_nil)))) (inert_cons (inert_lit _) inert_nil))) fun w0 M0 => ?_;refine len_sl (f := S1063.c) (l := a0) 0 rfl fun hla0 => ?_;refine len_sl (f := S1079.c) (l := a1) 1 rfl fun hla1 => ?_;refine aw_seq ?_;refine aw_region [.w, .w] ?_;refine st_w rfl rfl (eff_alloc 4 rfl z1072 rfl rfl) rfl ?_;refine st_w rfl rfl (eff_alloc 5 rfl z37 rfl rfl) rfl ?_;refine st_nil ?_;refine aw_seq ?_;refine aw_seq ?_;refine aw_region [.p, .p, .p, .p, .p, .p, .p] ?_;refine st rfl rfl (eff_moveg rfl rfl) rfl ?_;refine st rfl rfl (eff_call rfl K1029 rfl (c1029 a0) (ag_cons rfl ag_nil)) rfl ?_;refine st rfl rfl (eff_moveg rfl rfl) rfl ?_;refine st rfl rfl (eff_call rfl K1027 rfl (c1027 a1) (ag_cons rfl ag_nil)) rfl ?_;refine st rfl rfl (eff_buildSlice rfl Tryz.underlying222 ty37 z37 rfl (ps_cons rfl (ps_cons rfl ps_nil)) rfl (by simp []) (by decide)) rfl ?_;refine st rfl rfl (eff_call rfl K1085 rfl (c1085 [(s1029 a0), (s1027 a1)]) (ag_cons rfl ag_nil)) rfl ?_;refine st rfl rfl (eff_assigng rfl rfl) rfl ?_;refine st_nil ?_;refine aw_seq ?_;refine aw_region [.p, .p] ?_;refine st rfl rfl (eff_moveg rfl rfl) rfl ?_;refine st rfl rfl (eff_neq rfl rfl rfl) rfl ?_;refine st_nil ?_;refine aw_cond _ rfl (fun h1 => ?_) (fun h1 => ?_)
 ·replace h1 : (decide ((s1085 [(s1029 a0), (s1027 a1)]) ≠ 0)) = true := h1;replace hR := condT hR h1;(try simp only [Bool.or_eq_true, Bool.and_eq_true, Bool.or_eq_false_iff, Bool.and_eq_false_iff, Bool.not_eq_true', Bool.not_eq_false', decide_eq_true_eq, decide_eq_false_iff_not] at h1);refine aw_seq ?_;refine aw_region [.p, .p, .w, .w] ?_;refine st rfl rfl (eff_build rfl z1072 rfl pl1072 pb_nil rfl) rfl ?_;refine st rfl rfl (eff_moveg rfl rfl) rfl ?_;refine st_wn rfl rfl (eff_store (tv := .g (G.agg [G.int 0, G.int 0, G.int 0])) rfl ty1072 rfl rfl rfl rfl rfl) ?_;refine st_wn rfl rfl (eff_store (tv := .g (G.int (s1085 [(s1029 a0), (s1027 a1)]))) rfl ty37 rfl rfl rfl rfl rfl) ?_;refine st_nil ?_;refine aw_ret ?_;obtain rfl := Option.some.inj hR;exact resN rfl ⟨rv_cell rfl rfl ty1072 rfl rfl, rv_cell1 rfl rfl ty37 rfl, trivial⟩ (by simp)
 ·replace h1 : (decide ((s1085 [(s1029 a0), (s1027 a1)]) ≠ 0)) = false := h1;replace hR := condF hR h1;(try simp only [Bool.or_eq_true, Bool.and_eq_true, Bool.or_eq_false_iff, Bool.and_eq_false_iff, Bool.not_eq_true', Bool.not_eq_false', decide_eq_true_eq, decide_eq_false_iff_not] at h1);have hb1 := hb h1;obtain ⟨hsl, hmv⟩ := exc_in h1;refine aw_skip ?_;refine aw_seq ?_;refine aw_seq ?_;refine aw_region [.p, .p, .p] ?_;refine st rfl rfl (eff_moveg rfl rfl) rfl ?_;refine st rfl rfl (eff_lenM (f := S1063.c) (l := a0) rfl Tryz.underlying24 rfl) rfl ?_;refine st rfl rfl (eff_moveg rfl rfl) rfl ?_;refine st_nil ?_;refine aw_block ?_;refine aw_loop_g (γ := Nat × (List S1063) × Int × Int × Int × Int) (fun g => ([(1, .g (G.sl 7 (List.map S1079.c a1))), (4, .ptr 4 0), (5, .ptr 5 0), (24, .g (G.sl 5 (List.map S1063.c a0))), (25, .g (G.int (List.length a0 : Int))), (26, .g (G.int ((g.1 : Nat) : Int)))], [(4, .box [.g (G.int g.2.2.2.1), .g (G.int g.2.2.2.2.1), .g (G.int g.2.2.2.2.2)]), (5, .box [.g (G.int g.2.2.1)])])) (fun g => a0.drop g.1 = g.2.1 ∧ s1043_l1 a1 g.2.1 g.1 g.2.2.1 g.2.2.2.1 g.2.2.2.2.1 g.2.2.2.2.2 = some R) (fun g => List.length g.2.1) ⟨rfl, (0, a0, 0, 0, 0, 0), ⟨rfl, rfl, rfl, rfl, rfl, rfl, trivial⟩, ⟨rfl, rfl, trivial⟩, rfl, ⟨rfl, hR⟩, trivial⟩ ?_
  ·rintro ⟨k6, t8, x2, x3, x4, x5⟩ ⟨hd, hR⟩;replace hd : a0.drop k6 = t8 := hd;replace hR : s1043_l1 a1 t8 k6 x2 x3 x4 x5 = some R := hR;refine aw_seq ?_;refine aw_region [.p] ?_;refine st rfl rfl (eff_lss rfl rfl rfl) rfl ?_;refine st_nil ?_;refine len_sl (f := S1063.c) (l := a0) 24 rfl fun hlz1 => ?_;refine aw_seq ?_;refine aw_cond _ rfl (fun h2 => ?_) (fun h2 => ?_)
   ·replace h2 : (decide (((k6 : Nat) : Int) < (List.length a0 : Int))) = true := h2;obtain ⟨y7, t8, rfl, hx1, hd⟩ := drop_cons hd (decT h2);replace h2 := decT h2;rw [s1043_l1] at hR;(try dsimp only at hR);refine aw_skip ?_;refine aw_seq ?_;refine aw_block ?_;refine aw_seq ?_;refine aw_region [.p, .p, .p, .w, .w, .w, .w] ?_;refine st rfl rfl (eff_moveg rfl rfl) rfl ?_;refine st rfl rfl (eff_ix (f := S1063.c) (l := a0) (a := y7) rfl Tryz.underlying24 ty1064 rfl rfl (Int.natCast_nonneg _) hx1) rfl ?_;refine st rfl rfl (eff_loadA rfl ty1064 rfl rfl rfl) rfl ?_;refine st_w rfl rfl (eff_alloc 7 rfl z3 rfl rfl) rfl ?_;refine st_w rfl rfl (eff_alloc 8 rfl z1064 rfl rfl) rfl ?_;refine st_wn rfl rfl (eff_store (tv := .g (G.int ((k6 : Nat) : Int))) rfl ty3 rfl rfl rfl rfl rfl) ?_;refine st_wn rfl rfl (eff_store (tv := .g (G.agg [G.str y7.Terminal, G.str y7.Kind, G.int y7.Length, G.int y7.Step, G.int y7.Most])) rfl ty1064 rfl rfl rfl rfl rfl) ?_;refine st_nil ?_;refine aw_seq ?_;obtain ⟨r9, br9, hR⟩ := bindO_inv hR;have hlm := len1111 br9 hb1;have hyo := hsl _ (List.mem_of_getElem? hx1);refine aw_region [.r, .p, .p, .w, .w] ?_;refine st_r rfl rfl (eff_loadOA rfl ty1064 rfl rfl rfl rfl) rfl ?_;refine st rfl rfl (eff_moveg rfl rfl) rfl ?_;refine st rfl rfl (eff_call rfl K1111 rfl (c1111 y7 a1 (by first | assumption | omega | (simp [copyL_len]; done) | (simp [copyL_len]; omega)) br9) (ag_cons rfl (ag_cons rfl ag_nil))) rfl ?_;refine st_w rfl rfl (eff_alloc 9 rfl z1196 rfl rfl) rfl ?_;refine st_wn rfl rfl (eff_store (tv := .g (G.agg [G.sl 1 (List.map cInt r9.moments), G.sl 1 (List.map cInt r9.before)])) rfl ty1196 rfl rfl rfl rfl rfl) ?_;refine st_nil ?_;refine aw_seq ?_;refine aw_region [.p, .r, .p, .p] ?_;refine st rfl rfl (eff_fieldO rfl fl1196_0 rfl) rfl ?_;refine st_r rfl rfl (eff_loadO rfl ty82 rfl rfl rfl) rfl ?_;refine st rfl rfl (eff_lenM (f := cInt) (l := r9.moments) rfl Tryz.underlying51 rfl) rfl ?_;refine st rfl rfl (eff_moveg rfl rfl) rfl ?_;refine st_nil ?_;refine aw_block ?_;refine aw_loop_g (γ := Nat × (List Int) × Int × Int × Int × Int) (fun g => ([(1, .g (G.sl 7 (List.map S1079.c a1))), (4, .ptr 4 0), (5, .ptr 5 0), (7, .ptr 7 0), (8, .ptr 8 0), (9, .ptr 9 0), (24, .g (G.sl 5 (List.map S1063.c a0))), (25, .g (G.int (List.length a0 : Int))), (26, .g (G.int ((k6 : Nat) : Int))), (35, .g (G.sl 1 (List.map cInt r9.moments))), (36, .g (G.int (List.length r9.moments : Int))), (37, .g (G.int ((g.1 : Nat) : Int)))], [(4, .box [.g (G.int g.2.2.2.1), .g (G.int g.2.2.2.2.1), .g (G.int g.2.2.2.2.2)]), (5, .box [.g (G.int g.2.2.1)]), (7, .box [.g (G.int ((k6 : Nat) : Int))]), (8, .box [.g (G.str y7.Terminal), .g (G.str y7.Kind), .g (G.int y7.Length), .g (G.int y7.Step), .g (G.int y7.Most)]), (9, .box [.g (G.sl 1 (List.map cInt r9.moments)), .g (G.sl 1 (List.map cInt r9.before))])])) (fun g => r9.moments.drop g.1 = g.2.1 ∧ s1043_l2 (fun k_ z0_ z1_ z2_ z3_ => s1043_l1 a1 t8 k_ z0_ z1_ z2_ z3_) k6 y7 r9 g.2.1 g.1 g.2.2.1 g.2.2.2.1 g.2.2.2.2.1 g.2.2.2.2.2 = some R) (fun g => List.length g.2.1) ⟨rfl, (0, r9.moments, x2, x3, x4, x5), ⟨rfl, rfl, rfl, rfl, rfl, rfl, rfl, rfl, rfl, rfl, rfl, rfl, trivial⟩, ⟨rfl, rfl, rfl, rfl, rfl, trivial⟩, rfl, ⟨rfl, hR⟩, trivial⟩ ?_
    ·rintro ⟨k15, t17, x11, x12, x13, x14⟩ ⟨hd2, hR⟩;replace hd2 : r9.moments.drop k15 = t17 := hd2;replace hR : s1043_l2 (fun k_ z0_ z1_ z2_ z3_ => s1043_l1 a1 t8 k_ z0_ z1_ z2_ z3_) k6 y7 r9 t17 k15 x11 x12 x13 x14 = some R := hR;refine aw_seq ?_;refine aw_region [.p] ?_;refine st rfl rfl (eff_lss rfl rfl rfl) rfl ?_;refine st_nil ?_;refine len_sl (f := cInt) (l := r9.moments) 35 rfl fun hlz2 => ?_;refine aw_seq ?_;refine aw_cond _ rfl (fun h4 => ?_) (fun h4 => ?_)
     ·replace h4 : (decide (((k15 : Nat) : Int) < (List.length r9.moments : Int))) = true := h4;obtain ⟨y16, t17, rfl, hx2, hd2⟩ := drop_cons hd2 (decT h4);replace h4 := decT h4;rw [s1043_l2] at hR;(try dsimp only at hR);refine aw_skip ?_;refine aw_seq ?_;refine aw_block ?_;refine aw_seq ?_;refine aw_region [.p, .p, .p] ?_;refine st rfl rfl (eff_ix (f := cInt) (l := r9.moments) (a := y16) rfl Tryz.underlying51 ty3 rfl rfl (Int.natCast_nonneg _) hx2) rfl ?_;refine st rfl rfl (eff_load rfl ty3 rfl) rfl ?_;refine st rfl rfl (eff_assigng rfl rfl) rfl ?_;refine st_nil ?_;refine aw_seq ?_;have hmb := moms1111 br9 hmv hb1 (List.mem_of_getElem? hx2);refine aw_region [.r, .p, .p] ?_;refine st_r rfl rfl (eff_loadOA rfl ty1064 rfl rfl rfl rfl) rfl ?_;refine st rfl rfl (eff_moveg rfl rfl) rfl ?_;refine st rfl rfl (eff_call rfl K1114 rfl (c1114 y7 y16) (ag_cons rfl (ag_cons rfl ag_nil))) rfl ?_;refine st_nil ?_;refine aw_block ?_;refine aw_rangeC (α := Int) (γ := Int × Int × Int × Int) (enc := (Value.int .i64)) (l := [(1, .g (G.sl 7 (List.map S1079.c a1))), (4, .ptr 4 0), (5, .ptr 5 0), (7, .ptr 7 0), (8, .ptr 8 0), (9, .ptr 9 0), (24, .g (G.sl 5 (List.map S1063.c a0))), (25, .g (G.int (List.length a0 : Int))), (26, .g (G.int ((k6 : Nat) : Int))), (35, .g (G.sl 1 (List.map cInt r9.moments))), (36, .g (G.int (List.length r9.moments : Int))), (37, .g (G.int ((k15 : Nat) : Int))), (43, .g (G.fn (.func 156) [] [G.ref [G.int y16], G.ref [G.str y7.Terminal, G.str y7.Kind, G.int y7.Length, G.int y7.Step, G.int y7.Most]]))]) (winsOf y7 y16) (fun g => [(4, .box [.g (G.int g.2.1), .g (G.int g.2.2.1), .g (G.int g.2.2.2)]), (5, .box [.g (G.int g.1)]), (7, .box [.g (G.int ((k6 : Nat) : Int))]), (8, .box [.g (G.str y7.Terminal), .g (G.str y7.Kind), .g (G.int y7.Length), .g (G.int y7.Step), .g (G.int y7.Most)]), (9, .box [.g (G.sl 1 (List.map cInt r9.moments)), .g (G.sl 1 (List.map cInt r9.before))])]) (fun tl_ g => s1043_l3 (fun k_ z0_ z1_ z2_ z3_ => s1043_l2 (fun k_ z0_ z1_ z2_ z3_ => s1043_l1 a1 t8 k_ z0_ z1_ z2_ z3_) k6 y7 r9 t17 k_ z0_ z1_ z2_ z3_) k6 y7 r9 k15 tl_ g.1 g.2.1 g.2.2.1 g.2.2.2 = some R) (x11, x12, x13, x14) (fun g y22 => (upd 12 (.g (G.int y22)) (upd 44 (.g (.lit ((Value.int .i64) y22))) (lookT [(1, .g (G.sl 7 (List.map S1079.c a1))), (4, .ptr 4 0), (5, .ptr 5 0), (7, .ptr 7 0), (8, .ptr 8 0), (9, .ptr 9 0), (24, .g (G.sl 5 (List.map S1063.c a0))), (25, .g (G.int (List.length a0 : Int))), (26, .g (G.int ((k6 : Nat) : Int))), (35, .g (G.sl 1 (List.map cInt r9.moments))), (36, .g (G.int (List.length r9.moments : Int))), (37, .g (G.int ((k15 : Nat) : Int))), (43, .g (G.fn (.func 156) [] [G.ref [G.int y16], G.ref [G.str y7.Terminal, G.str y7.Kind, G.int y7.Length, G.int y7.Step, G.int y7.Most]]))])), [(4, .box [.g (G.int g.2.1), .g (G.int g.2.2.1), .g (G.int g.2.2.2)]), (5, .box [.g (G.int g.1)]), (7, .box [.g (G.int ((k6 : Nat) : Int))]), (8, .box [.g (G.str y7.Terminal), .g (G.str y7.Kind), .g (G.int y7.Length), .g (G.int y7.Step), .g (G.int y7.Most)]), (9, .box [.g (G.sl 1 (List.map cInt r9.moments)), .g (G.sl 1 (List.map cInt r9.before))])])) rfl ⟨rfl, rfl, rfl, rfl, rfl, rfl, rfl, rfl, rfl, rfl, rfl, rfl, rfl, trivial⟩ ⟨rfl, rfl, rfl, rfl, rfl, trivial⟩ rfl rfl K1156 (win_ok hyo hmb.1 hmb.2) (by exact hR) rfl (fun _ => rfl) (fun _ => rfl) ?_ (fun _ _ => rfl) ?_ ?_
      ·rintro y22 ⟨x18, x19, x20, x21⟩ lp_ w1_ M1_ x1_;refine aw_region [.p] ?_;refine st rfl rfl (eff_assigng rfl rfl) rfl ?_;refine st_nil ?_;exact ⟨rfl, rfl⟩
      ·rintro y22 t23 ⟨x18, x19, x20, x21⟩ hx3 hR lp_ w1_ M1_ x1_;replace hR : s1043_l3 (fun k_ z0_ z1_ z2_ z3_ => s1043_l2 (fun k_ z0_ z1_ z2_ z3_ => s1043_l1 a1 t8 k_ z0_ z1_ z2_ z3_) k6 y7 r9 t17 k_ z0_ z1_ z2_ z3_) k6 y7 r9 k15 (y22 :: t23) x18 x19 x20 x21 = some R := hR;rw [s1043_l3] at hR;(try dsimp only at hR);refine aw_block ?_;refine aw_seq ?_;obtain ⟨r24, br24, hR⟩ := bindO_inv hR;refine aw_region [.r, .p, .p, .r, .p, .p] ?_;refine st_r rfl rfl (eff_loadOA rfl ty1196 rfl rfl rfl rfl) rfl ?_;refine st rfl rfl (eff_moveg rfl rfl) rfl ?_;refine st rfl rfl (eff_fieldO rfl fl1064_2 rfl) rfl ?_;refine st_r rfl rfl (eff_loadO rfl ty3 rfl rfl rfl) rfl ?_;refine st rfl rfl (eff_call rfl K1112 rfl (c1112 r9 y22 y7.Length (by first | assumption | omega | (simp [copyL_len]; done) | (simp [copyL_len]; omega)) br24) (ag_cons rfl (ag_cons rfl (ag_cons rfl ag_nil)))) rfl ?_;refine st rfl rfl (eff_assigng rfl rfl) rfl ?_;refine st_nil ?_;refine aw_seq ?_;refine aw_region [.p, .p, .r, .p] ?_;refine st rfl rfl (eff_moveg rfl rfl) rfl ?_;refine st rfl rfl (eff_fieldO rfl fl1064_4 rfl) rfl ?_;refine st_r rfl rfl (eff_loadO rfl ty3 rfl rfl rfl) rfl ?_;refine st rfl rfl (eff_gtr rfl rfl rfl) rfl ?_;refine st_nil ?_;refine aw_cond _ rfl (fun h6 => ?_) (fun h6 => ?_)
       ·replace h6 : (decide (y7.Most < r24)) = true := h6;replace hR := condT hR h6;(try simp only [Bool.or_eq_true, Bool.and_eq_true, Bool.or_eq_false_iff, Bool.and_eq_false_iff, Bool.not_eq_true', Bool.not_eq_false', decide_eq_true_eq, decide_eq_false_iff_not] at h6);refine aw_seq ?_;refine aw_region [.r, .p, .p, .p, .w, .w] ?_;refine st_r rfl rfl (eff_loadO rfl ty3 rfl rfl rfl) rfl ?_;refine st rfl rfl (eff_moveg rfl rfl) rfl ?_;refine st rfl rfl (eff_moveg rfl rfl) rfl ?_;refine st rfl rfl (eff_build rfl z1072 rfl pl1072 (pb_cons rfl (pb_cons rfl (pb_cons rfl pb_nil))) rfl) rfl ?_;refine st_wn rfl rfl (eff_store (tv := .g (G.agg [G.int ((k6 : Nat) : Int), G.int y22, G.int r24])) rfl ty1072 rfl rfl rfl rfl rfl) ?_;refine st_wn rfl rfl (eff_store (tv := .g (G.int 0)) rfl ty37 rfl rfl rfl rfl rfl) ?_;refine st_nil ?_;refine aw_ret ?_;refine ⟨[(4, .box [.g (G.int ((k6 : Nat) : Int)), .g (G.int y22), .g (G.int r24)]), (5, .box [.g (G.int 0)]), (7, .box [.g (G.int ((k6 : Nat) : Int))]), (8, .box [.g (G.str y7.Terminal), .g (G.str y7.Kind), .g (G.int y7.Length), .g (G.int y7.Step), .g (G.int y7.Most)]), (9, .box [.g (G.sl 1 (List.map cInt r9.moments)), .g (G.sl 1 (List.map cInt r9.before))])], ?_, rfl, rfl, ⟨rfl, rfl, rfl, rfl, rfl, trivial⟩⟩;refine aw_ret ?_;obtain rfl := Option.some.inj hR;exact resN rfl ⟨rv_cell rfl rfl ty1072 rfl rfl, rv_cell1 rfl rfl ty37 rfl, trivial⟩ (by simp)
       ·replace h6 : (decide (y7.Most < r24)) = false := h6;replace hR := condF hR h6;(try simp only [Bool.or_eq_true, Bool.and_eq_true, Bool.or_eq_false_iff, Bool.and_eq_false_iff, Bool.not_eq_true', Bool.not_eq_false', decide_eq_true_eq, decide_eq_false_iff_not] at h6);refine aw_skip ?_;exact ⟨(x18, x19, x20, x21), hR, ⟨rfl, rfl, rfl, rfl, rfl, trivial⟩⟩
      ·rintro ⟨x18, x19, x20, x21⟩ hR;replace hR : s1043_l3 (fun k_ z0_ z1_ z2_ z3_ => s1043_l2 (fun k_ z0_ z1_ z2_ z3_ => s1043_l1 a1 t8 k_ z0_ z1_ z2_ z3_) k6 y7 r9 t17 k_ z0_ z1_ z2_ z3_) k6 y7 r9 k15 [] x18 x19 x20 x21 = some R := hR;rw [s1043_l3] at hR;(try dsimp only at hR);refine aw_region [.p, .p] ?_;refine st rfl rfl (eff_add rfl rfl rfl (by unfold I64; omega)) rfl ?_;refine st rfl rfl (eff_moveg rfl rfl) rfl ?_;refine st_nil ?_;exact ⟨rfl, (k15 + 1, t17, x18, x19, x20, x21), ⟨rfl, rfl, rfl, rfl, rfl, rfl, rfl, rfl, rfl, rfl, rfl, rfl, trivial⟩, ⟨rfl, rfl, rfl, rfl, rfl, trivial⟩, rfl, ⟨hd2, hR⟩, by simp⟩
     ·replace h4 : (decide (((k15 : Nat) : Int) < (List.length r9.moments : Int))) = false := h4;obtain rfl := drop_nil hd2 (decF h4);rw [s1043_l2] at hR;refine aw_exit ?_;refine aw_region [.p, .p] ?_;refine st rfl rfl (eff_add rfl rfl rfl (by unfold I64; omega)) rfl ?_;refine st rfl rfl (eff_moveg rfl rfl) rfl ?_;refine st_nil ?_;exact ⟨rfl, (k6 + 1, t8, x11, x12, x13, x14), ⟨rfl, rfl, rfl, rfl, rfl, rfl, trivial⟩, ⟨rfl, rfl, trivial⟩, rfl, ⟨hd, hR⟩, by simp⟩
   ·replace h2 : (decide (((k6 : Nat) : Int) < (List.length a0 : Int))) = false := h2;obtain rfl := drop_nil hd (decF h2);rw [s1043_l1] at hR;refine aw_exit ?_;refine aw_seq ?_;refine aw_region [.p, .w, .w] ?_;refine st rfl rfl (eff_build rfl z1072 rfl pl1072 pb_nil rfl) rfl ?_;refine st_wn rfl rfl (eff_store (tv := .g (G.agg [G.int 0, G.int 0, G.int 0])) rfl ty1072 rfl rfl rfl rfl rfl) ?_;refine st_wn rfl rfl (eff_store (tv := .g (G.int 7)) rfl ty37 rfl rfl rfl rfl rfl) ?_;refine st_nil ?_;refine aw_ret ?_;obtain rfl := Option.some.inj hR;exact resN rfl ⟨rv_cell rfl rfl ty1072 rfl rfl, rv_cell1 rfl rfl ty37 rfl, trivial⟩ (by simp)
theorem bl_tr : ∀ x y z : List UInt8, Op.bytesLess x y = true → Op.bytesLess y z = true → Op.bytesLess x z = true
 | _, _, [], _, h => by cases ‹List UInt8› <;> simp [Op.bytesLess] at h
 | _, [], _ :: _, h, _ => by cases ‹List UInt8› <;> simp [Op.bytesLess] at h
 | [], _ :: _, _ :: _, _, _ => rfl
 | a :: x, b :: y, c :: z, h, k => by
  simp only [Op.bytesLess, Bool.or_eq_true, decide_eq_true_eq, Bool.and_eq_true, beq_iff_eq] at h k ⊢
  rcases h with h | ⟨rfl, h⟩
  ·rcases k with k | ⟨rfl, k⟩
   ·exact .inl (UInt8.lt_trans h k)
   ·exact .inl h
  ·rcases k with k | ⟨rfl, k⟩
   ·exact .inl k
   ·exact .inr ⟨rfl, bl_tr x y z h k⟩
theorem bl_tri : ∀ x y : List UInt8, Op.bytesLess x y = false → Op.bytesLess y x = false → x = y
 | [], [], _, _ => rfl
 | [], _ :: _, h, _ => by simp [Op.bytesLess] at h
 | _ :: _, [], _, h => by simp [Op.bytesLess] at h
 | a :: x, b :: y, h, k => by
  simp only [Op.bytesLess, Bool.or_eq_false_iff, decide_eq_false_iff_not, Bool.and_eq_false_iff, beq_eq_false_iff_ne] at h k;have e : a = b := UInt8.le_antisymm (UInt8.not_lt.1 k.1) (UInt8.not_lt.1 h.1);subst e;rw [bl_tri x y (h.2.resolve_left fun g => g rfl) (k.2.resolve_left fun g => g rfl)]
theorem sl_tr {a b c : ByteArray} (h : strLt a b = true) (k : strLt b c = true) : strLt a c = true := bl_tr _ _ _ h k
theorem sl_tri {a b : ByteArray} (h : strLt a b = false) (k : strLt b a = false) : a = b := by
 have := bl_tri _ _ h k;have e := toList_inj (s := a) (s' := b);rw [this] at e
 simpa using e.symm
def RelR (a b : S1154) : Prop := strLt b.Name a.Name = false
theorem RelR.tr (a b c : S1154) (h : RelR a b) (k : RelR b c) : RelR a c := by
 unfold RelR at *
 cases hc : strLt c.Name a.Name
 ·rfl
 ·cases hb : strLt b.Name c.Name
  ·have := sl_tri hb k;rw [this] at h; rw [h] at hc; cases hc
  ·rw [sl_tr hb hc] at h; cases h
theorem srt_iff (t : Int) : ∀ {ms : List Int}, ms.Pairwise (· ≤ ·) → ∀ i (hi : i < ms.length), (ms[i] < t ↔ i < (ms.takeWhile (fun x => decide (x < t))).length)
 | [], _, i, hi => by simp at hi
 | x :: ms, h, i, hi => by
  rw [List.pairwise_cons] at h
  by_cases hx : x < t
  ·rw [List.takeWhile_cons_of_pos (by simp [hx])]
   cases i with
   | zero => simp [hx]
   | succ i =>
    have := srt_iff t h.2 i (by simpa using hi);simp only [List.getElem_cons_succ, List.length_cons]
    omega
  ·rw [List.takeWhile_cons_of_neg (by simp [hx])]
   cases i with
   | zero => simp; omega
   | succ i =>
    have := h.1 (ms[i]'(by simpa using hi)) (List.getElem_mem _);simp only [List.getElem_cons_succ, List.length_nil]
    omega
theorem s1194_eq (a b : Int) : s1194 a b = decide (a < b) := by
 have h : ∀ x, s202 x = false := fun x => by unfold s202; simp
 unfold s1194; rw [h]; simp
theorem bs_loop (t : Int) {ms : List Int} (h : ms.Pairwise (· ≤ ·)) (p : Nat) (hp : p = (ms.takeWhile (fun x => decide (x < t))).length) : ∀ (k lo hi : Nat), lo ≤ p → p ≤ hi → hi ≤ ms.length → hi - lo < k → ∃ b, s1175_l1 ms t k (lo : Int) (hi : Int) = some ((p : Int), b)
 | 0, lo, hi, _, _, _, h => by omega
 | k + 1, lo, hi, h1, h2, h3, h4 => by
  rw [s1175_l1]
  by_cases hc : lo < hi
  ·rw [decide_eq_true (by omega : (lo : Int) < (hi : Int)), cond_true]
   have e : ((lo : Int) + (hi : Int)) / 2 = (((lo + hi) / 2 : Nat) : Int) := by omega
   have hlt : (lo + hi) / 2 < ms.length := by omega
   rw [e, ixO_at hlt];simp only [bindO];rw [s1194_eq];have hi' := srt_iff t h ((lo + hi) / 2) hlt;rw [← hp] at hi'
   by_cases hm : ms[(lo + hi) / 2] < t
   ·rw [decide_eq_true hm, cond_true, show ((((lo + hi) / 2 : Nat) : Int) + 1) = (((lo + hi) / 2 + 1 : Nat) : Int) by push_cast; rfl];exact bs_loop t h p hp k _ _ (by have := hi'.1 hm; omega) h2 h3 (by omega)
   ·rw [decide_eq_false hm, cond_false];exact bs_loop t h p hp k _ _ h1 (by have : ¬ (lo + hi) / 2 < p := fun q => hm (hi'.2 q); omega) (by omega) (by omega)
  ·have e1 : lo = p := by omega
   subst e1;rw [decide_eq_false (by omega : ¬ (lo : Int) < (hi : Int)), cond_false]
   by_cases hl : lo < ms.length
   ·rw [decide_eq_true (by omega : (lo : Int) < (ms.length : Int)), cond_true, ixO_at hl];simp only [bindO, Bool.true_and]
    cases hq : (!(decide (ms[lo] = t)))
    ·exact ⟨_, rfl⟩
    ·exact ⟨_, rfl⟩
   ·rw [decide_eq_false (by omega : ¬ (lo : Int) < (ms.length : Int)), cond_false];simp only [bindO, Bool.false_and, cond_false];exact ⟨_, rfl⟩
theorem sums_get : ∀ (l : List S1079) (x : Int) (j : Nat), j ≤ l.length → (sums x l)[j]? = some (x + ((l.take j).map S1079.Seats).sum)
 | [], x, j, h => by
  have : j = 0 := by simpa using h
  subst this; simp [sums]
 | m :: l, x, 0, _ => by simp [sums]
 | m :: l, x, j + 1, h => by
  rw [sums, List.getElem?_cons_succ, sums_get l _ j (by simpa using h), List.take_succ_cons, List.map_cons, List.sum_cons, Int.add_assoc]
def U (a : S1063) (l : List S1079) (t : Int) : Int := ((l.filter (fun m => s1116 a m && decide (m.Moment < t))).map S1079.Seats).sum
theorem own_sorted (a : S1063) (l : List S1079) : (ownL a l).Pairwise (fun x y => x.Moment ≤ y.Moment) := by
 unfold ownL;refine isort_sorted (Rel := fun (x y : S1079) => x.Moment ≤ y.Moment) (fun a b c h k => Int.le_trans h k) (List.pairwise_of_forall fun y x => ⟨fun h => ?_, fun h => ?_⟩)
 ·unfold ltM at h; have := of_decide_eq_true h; omega
 ·unfold ltM at h; have := of_decide_eq_false h; omega
theorem tw_filter (t : Int) : ∀ {l : List S1079}, l.Pairwise (fun x y => x.Moment ≤ y.Moment) → l.takeWhile (fun m => decide (m.Moment < t)) = l.filter (fun m => decide (m.Moment < t))
 | [], _ => rfl
 | x :: l, h => by
  rw [List.pairwise_cons] at h
  by_cases hx : x.Moment < t
  ·rw [List.takeWhile_cons_of_pos (by simp [hx]), List.filter_cons_of_pos (by simp [hx]), tw_filter t h.2]
  ·rw [List.takeWhile_cons_of_neg (by simp [hx]), List.filter_cons_of_neg (by simp [hx])]
   symm
   rw [List.filter_eq_nil_iff];intro y hy;have := h.1 y hy
   simp; omega
theorem perm_sumI {l l' : List Int} (h : l.Perm l') : l.sum = l'.sum := by
 induction h with
 | nil => rfl
 | cons _ _ ih => simp [ih]
 | swap => simp only [List.sum_cons]; omega
 | trans _ _ i1 i2 => exact i1.trans i2
theorem until_ok (a : S1063) (l : List S1079) (t : Int) : s1155 ⟨(ownL a l).map S1079.Moment, sums 0 (ownL a l)⟩ t = some (U a l t) := by
 have hs := own_sorted a l;have hms : ((ownL a l).map S1079.Moment).Pairwise (· ≤ ·) := List.pairwise_map.2 hs
 have htw : (((ownL a l).map S1079.Moment).takeWhile (fun x => decide (x < t))).length = ((ownL a l).takeWhile (fun m => decide (m.Moment < t))).length := by
  rw [List.takeWhile_map, List.length_map]; rfl
 obtain ⟨b, hb⟩ := bs_loop t hms _ rfl (((ownL a l).map S1079.Moment).length + 1) 0 ((ownL a l).map S1079.Moment).length (Nat.zero_le _) (List.takeWhile_sublist _).length_le (Nat.le_refl _) (by omega);unfold s1155 s1175;dsimp only;rw [show ((((((ownL a l).map S1079.Moment).length : Nat) : Int) - 0).toNat) + 1 = ((ownL a l).map S1079.Moment).length + 1 by omega];rw [show (0 : Int) = ((0 : Nat) : Int) from rfl, hb];simp only [bindO];rw [htw];have hle : ((ownL a l).takeWhile (fun m => decide (m.Moment < t))).length ≤ (ownL a l).length := (List.takeWhile_sublist _).length_le;have hg := sums_get (ownL a l) 0 _ hle
 have hix : ixO (sums 0 (ownL a l)) ((((ownL a l).takeWhile (fun m => decide (m.Moment < t))).length : Nat) : Int) = some (0 + (((ownL a l).take ((ownL a l).takeWhile (fun m => decide (m.Moment < t))).length).map S1079.Seats).sum) := by
  unfold ixO; rw [decide_eq_true (by omega), cond_true]; simpa using hg
 rw [show ((0 : Nat) : Int) = 0 from rfl, hix];simp only [Int.zero_add]
 congr 1
 have htk : (ownL a l).take ((ownL a l).takeWhile (fun m => decide (m.Moment < t))).length = (ownL a l).takeWhile (fun m => decide (m.Moment < t)) := by
  conv => lhs; arg 2; rw [← List.takeWhile_append_dropWhile (p := fun m => decide (m.Moment < t)) (l := ownL a l)]
  rw [List.take_left]
 rw [htk, tw_filter t hs];unfold U
 have hp : ((ownL a l).filter (fun m => decide (m.Moment < t))).Perm (l.filter (fun m => s1116 a m && decide (m.Moment < t))) := by
  have h1 := (isort_perm ltM (l.filter fun m => s1116 a m)).filter (fun m => decide (m.Moment < t));rw [List.filter_filter] at h1
  have e : (fun m : S1079 => decide (m.Moment < t) && s1116 a m) = fun m => s1116 a m && decide (m.Moment < t) := by funext m; exact Bool.and_comm _ _
  rw [e] at h1;exact h1
 exact perm_sumI (hp.map S1079.Seats)
theorem U_rng (a : S1063) (t : Int) : ∀ {l : List S1079}, (∀ m ∈ l, 0 ≤ m.Seats ∧ m.Seats ≤ 999) → 0 ≤ U a l t ∧ U a l t ≤ 999 * (l.length : Int)
 | [], _ => by simp [U]
 | m :: l, h => by
  have ih := U_rng a t (l := l) fun x hx => h x (List.mem_cons_of_mem _ hx);have hm := h m List.mem_cons_self;unfold U at *;rw [List.filter_cons];rw [List.length_cons]
  split
  ·rw [List.map_cons, List.sum_cons]; omega
  ·omega
def W (a : S1063) (l : List S1079) (b : Int) : Int := ((l.filter (fun m => (s1113 a m && decide (b ≤ m.Moment)) && decide (m.Moment < b + a.Length))).map S1079.Seats).sum
theorem W_U (a : S1063) (b : Int) (hl : 1 ≤ a.Length) : ∀ (l : List S1079), U a l (b + a.Length) - U a l b = W a l b
 | [] => by simp [U, W]
 | m :: l => by
  have ih := W_U a b hl l;unfold U W at *;have e : s1116 a m = s1113 a m := rfl;rw [List.filter_cons, List.filter_cons, List.filter_cons, e]
  cases hc : s1113 a m
  ·simp only [Bool.false_and, Bool.false_eq_true, if_false]; exact ih
  ·by_cases h1 : m.Moment < b + a.Length <;> by_cases h2 : m.Moment < b
   ·have h3 : ¬ b ≤ m.Moment := by omega
    simp only [h1, h2, h3, decide_true, decide_false, Bool.true_and, Bool.and_true, Bool.false_and, Bool.and_false, if_true, Bool.false_eq_true, if_false, List.map_cons, List.sum_cons]; omega
   ·have h3 : b ≤ m.Moment := by omega
    simp only [h1, h2, h3, decide_true, decide_false, Bool.true_and, Bool.and_true, Bool.false_and, Bool.and_false, if_true, Bool.false_eq_true, if_false, List.map_cons, List.sum_cons]; omega
   ·omega
   ·simp only [h1, h2, decide_true, decide_false, Bool.true_and, Bool.and_true, Bool.false_and, Bool.and_false, if_true, Bool.false_eq_true, if_false, List.map_cons, List.sum_cons]; omega
theorem s1042_run (a : S1063) (b : Int) (hb : IntKind.i64.wrap (b + a.Length) = b + a.Length) : ∀ (l : List S1079) (k : Nat) (x : Int), (∀ m ∈ l, 0 ≤ m.Seats ∧ m.Seats ≤ 999) → 0 ≤ x → x + 999 * (l.length : Int) ≤ 10000000 → s1042_l1 a b l k x = x + W a l b
 | [], k, x, _, _, _ => by simp [s1042_l1, W]
 | m :: l, k, x, h, h0, h1 => by
  have hm := h m List.mem_cons_self;rw [List.length_cons] at h1;rw [s1042_l1, hb];unfold s1042_j1 W;rw [List.filter_cons]
  cases hc : (s1113 a m && decide (b ≤ m.Moment)) && decide (m.Moment < b + a.Length)
  ·rw [cond_false];simp only [Bool.false_eq_true, if_false];exact s1042_run a b hb l _ _ (fun y hy => h y (List.mem_cons_of_mem _ hy)) h0 (by omega)
  ·rw [cond_true, wrap_i64 (by unfold I64; omega)];simp only [if_true, List.map_cons, List.sum_cons];rw [s1042_run a b hb l _ _ (fun y hy => h y (List.mem_cons_of_mem _ hy)) (by omega) (by omega), Int.add_assoc]; rfl
theorem window_ok {a : S1063} {l : List S1079} {b : Int} (h : SeatOk a) (hm : ∀ m ∈ l, 0 ≤ m.Seats ∧ m.Seats ≤ 999) (hl : l.length ≤ 12) (h0 : 0 ≤ b) (h1 : b ≤ 150000000) :
  s1112 ⟨(ownL a l).map S1079.Moment, sums 0 (ownL a l)⟩ b a.Length = some (s1042 a l b) ∧ s1042 a l b = W a l b ∧ 0 ≤ s1042 a l b ∧ s1042 a l b ≤ 11988 := by
 have h2 := h.l0; have h3 := h.l1;have hw : IntKind.i64.wrap (b + a.Length) = b + a.Length := wrap_i64 (by unfold I64; omega);have hr := s1042_run a b hw l 0 0 hm (by decide) (by omega);have hW := W_U a b h2 l;have u1 := U_rng a (b + a.Length) hm;have u2 := U_rng a b hm
 have hWr : 0 ≤ W a l b ∧ W a l b ≤ 11988 := by
  have : ∀ {l : List S1079}, (∀ m ∈ l, 0 ≤ m.Seats ∧ m.Seats ≤ 999) → 0 ≤ W a l b := by
   intro l hm;unfold W
   induction l with
   | nil => simp
   | cons y l ih =>
    have i1 := ih fun x hx => hm x (List.mem_cons_of_mem _ hx);have i2 := hm y List.mem_cons_self;rw [List.filter_cons]; split
    ·rw [List.map_cons, List.sum_cons]; omega
    ·exact i1
  have := this hm
  omega
 have hs : s1042 a l b = W a l b := by unfold s1042; rw [hr, Int.zero_add]
 refine ⟨?_, hs, by rw [hs]; exact hWr.1, by rw [hs]; exact hWr.2⟩;unfold s1112;rw [hw, until_ok, until_ok];simp only [bindO];rw [wrap_i64 (by unfold I64; omega), hW, hs]
theorem winL_mem {s m : Int} (hs : 1 ≤ s) : ∀ (n : Nat) (b x : Int), x ∈ winL s m n b → b ≤ x ∧ x ≤ m ∧ s ∣ (x - b)
 | 0, b, x, h => by simp [winL] at h
 | n + 1, b, x, h => by
  rw [winL] at h
  by_cases hc : b ≤ m
  ·rw [if_pos hc, List.mem_cons] at h
   rcases h with rfl | h
   ·exact ⟨Int.le_refl _, hc, by simp⟩
   ·have ih := winL_mem hs n (b + s) x h;refine ⟨by omega, ih.2.1, ?_⟩;obtain ⟨q, hq⟩ := ih.2.2;exact ⟨q + 1, by rw [Int.mul_add, Int.mul_one]; omega⟩
  ·rw [if_neg hc] at h; simp at h
theorem winL_has {s m : Int} (hs : 1 ≤ s) : ∀ (n : Nat) (b x : Int), b ≤ x → x ≤ m → s ∣ (x - b) → m + 1 - b ≤ (n : Int) → x ∈ winL s m n b
 | 0, b, x, h1, h2, _, h4 => by omega
 | n + 1, b, x, h1, h2, h3, h4 => by
  rw [winL, if_pos (by omega), List.mem_cons]
  by_cases he : x = b
  ·exact .inl he
  ·refine .inr ?_;obtain ⟨q, hq⟩ := h3
   have hq1 : 1 ≤ q := by
    rcases Int.lt_or_le 0 q with h | h
    ·omega
    ·have := Int.mul_le_mul_of_nonneg_left h (show 0 ≤ s by omega)
     simp at this; omega
   have hq2 : s * 1 ≤ s * q := Int.mul_le_mul_of_nonneg_left hq1 (by omega);exact winL_has hs n (b + s) x (by omega) h2 ⟨q - 1, by rw [Int.mul_sub, Int.mul_one]; omega⟩ (by omega)
theorem winL_srt {s m : Int} (hs : 1 ≤ s) : ∀ (n : Nat) (b : Int), (winL s m n b).Pairwise (· < ·)
 | 0, b => by simp [winL]
 | n + 1, b => by
  rw [winL]
  split
  ·rw [List.pairwise_cons];exact ⟨fun x hx => by have := (winL_mem hs n _ x hx).1; omega, winL_srt hs n _⟩
  ·exact List.Pairwise.nil
theorem wins_iff {a : S1063} {m b : Int} (h : SeatOk a) (h0 : 0 ≤ m) (h1 : m ≤ 143999999) : b ∈ winsOf a m ↔ a.Step ∣ b ∧ 0 ≤ b ∧ m - a.Length + 1 ≤ b ∧ b ≤ m := by
 have hr := win0_rng h h0 h1;have hs := h.s0;have hL := h.l1;have hd : a.Step ∣ win0 a.Length a.Step m := ⟨_, by unfold win0; exact Int.mul_comm _ _⟩;unfold winsOf
 constructor
 ·intro hb;have := winL_mem hs _ _ _ hb;refine ⟨?_, by omega, by omega, this.2.1⟩;have h3 := Int.dvd_add this.2.2 hd
  rwa [Int.sub_add_cancel] at h3
 ·rintro ⟨hb, hb0, hb1, hb2⟩;refine winL_has hs _ _ _ ?_ hb2 (Int.dvd_sub hb hd) (by omega);obtain ⟨q, rfl⟩ := hb;unfold win0;rw [Int.mul_comm a.Step q];refine Int.mul_le_mul_of_nonneg_right ?_ (by omega)
  have : (max 0 (m - a.Length + 1) + a.Step - 1) / a.Step < q + 1 := by
   refine Int.ediv_lt_of_lt_mul (by omega) ?_;rw [Int.add_mul, Int.one_mul, Int.mul_comm q]
   omega
  omega
theorem find_min {p : Int → Bool} : ∀ {L : List Int}, L.Pairwise (· < ·) → ∀ {b}, L.find? p = some b → ∀ b' ∈ L, p b' = true → b ≤ b'
 | [], _, b, h => by simp at h
 | x :: L, hs, b, h => by
  rw [List.pairwise_cons] at hs;intro b' hb' hp;rw [List.find?_cons] at h
  cases hx : p x
  ·rw [hx] at h
   rcases List.mem_cons.1 hb' with rfl | hm
   ·rw [hx] at hp; cases hp
   ·exact find_min hs.2 h b' hm hp
  ·rw [hx] at h; cases h
   rcases List.mem_cons.1 hb' with rfl | hm
   ·exact Int.le_refl _
   ·have := hs.1 b' hm; omega
theorem find_wins {a : S1063} (h : SeatOk a) {p : Int → Bool} : ∀ {ms : List Int}, ms.Pairwise (· ≤ ·) → (∀ m ∈ ms, 0 ≤ m ∧ m ≤ 143999999) → ∀ {b}, (ms.flatMap (winsOf a)).find? p = some b → ∀ b' ∈ ms.flatMap (winsOf a), p b' = true → b ≤ b'
 | [], _, _, b, hf => by simp at hf
 | m :: ms, hs, hr, b, hf => by
  rw [List.pairwise_cons] at hs;have hm := hr m List.mem_cons_self;have hr' := fun x hx => hr x (List.mem_cons_of_mem m hx);intro b' hb' hp;rw [List.flatMap_cons, List.find?_append] at hf;rw [List.flatMap_cons, List.mem_append] at hb';have hso : (winsOf a m).Pairwise (· < ·) := winL_srt h.s0 _ _
  cases hx : (winsOf a m).find? p with
  | none =>
   rw [hx] at hf
   rcases hb' with hb' | hb'
   ·have := List.find?_eq_none.1 hx b' hb'; exact absurd hp this
   ·exact find_wins h hs.2 hr' (by simpa using hf) b' hb' hp
  | some c =>
   rw [hx] at hf
   have hcb : c = b := by simpa using hf
   subst hcb
   rcases hb' with hb' | hb'
   ·exact find_min hso hx b' hb' hp
   ·obtain ⟨m', hm', hb''⟩ := List.mem_flatMap.1 hb';have hmr := hr' m' hm';have hle := hs.1 m' hm';rw [wins_iff h hmr.1 hmr.2] at hb''
    rcases Int.lt_or_le b' c with hlt | hle2
    ·have hcm := (wins_iff h hm.1 hm.2).1 (List.mem_of_find?_eq_some hx);refine find_min hso hx b' ((wins_iff h hm.1 hm.2).2 ⟨hb''.1, hb''.2.1, by omega, by omega⟩) hp
    ·exact hle2
def ExB (a : S1063) (l : List S1079) (b : Int) : Bool := decide (a.Most < s1042 a l b)
def updS (a : S1063) (l : List S1079) (S : Option Int) (b : Int) : Option Int := if ExB a l b = true ∧ (S = none ∨ ∃ c, S = some c ∧ b < c) then some b else S
theorem updS_fold (a : S1063) (l : List S1079) : ∀ (L : List Int) (S : Option Int), (∀ c, S = some c → ExB a l c = true) →
  (L.foldl (updS a l) S = none → S = none ∧ ∀ b ∈ L, ExB a l b = false) ∧
  (∀ c, L.foldl (updS a l) S = some c → ExB a l c = true ∧ (S = some c ∨ c ∈ L) ∧ (∀ b ∈ L, ExB a l b = true → c ≤ b) ∧ ∀ d, S = some d → c ≤ d)
 | [], S, hS => ⟨fun h => ⟨h, by simp⟩, fun c h => ⟨hS c h, .inl h, by simp, fun d hd => by rw [show ([] : List Int).foldl (updS a l) S = S from rfl, hd] at h; cases h; exact Int.le_refl _⟩⟩
 | x :: L, S, hS => by
  rw [List.foldl_cons]
  have hu : ∀ c, updS a l S x = some c → ExB a l c = true := by
   intro c h;unfold updS at h
   split at h
   ·rename_i q; cases h; exact q.1
   ·exact hS c h
  have ih := updS_fold a l L (updS a l S x) hu;refine ⟨fun h => ?_, fun c h => ?_⟩
  ·have i1 := ih.1 h;have i2 := i1.1;unfold updS at i2
   split at i2
   ·cases i2
   ·rename_i q
    refine ⟨i2, fun b hb => ?_⟩
    rcases List.mem_cons.1 hb with rfl | hb
    ·cases he : ExB a l b
     ·rfl
     ·exact absurd ⟨he, .inl i2⟩ q
    ·exact i1.2 b hb
  ·obtain ⟨j1, j2, j3, j4⟩ := ih.2 c h;refine ⟨j1, ?_, ?_, ?_⟩
   ·rcases j2 with j2 | j2
    ·unfold updS at j2
     split at j2
     ·cases j2; exact .inr List.mem_cons_self
     ·exact .inl j2
    ·exact .inr (List.mem_cons_of_mem _ j2)
   ·intro b hb he
    rcases List.mem_cons.1 hb with rfl | hb
    ·by_cases hq : S = none ∨ ∃ c, S = some c ∧ b < c
     ·exact j4 b (by unfold updS; rw [if_pos ⟨he, hq⟩])
     ·cases hS' : S with
      | none => exact absurd (.inl hS') hq
      | some d =>
       have hbd : ¬ b < d := fun q => hq (.inr ⟨d, hS', q⟩);have := j4 d (by unfold updS; rw [if_neg (fun q => hq q.2)]; exact hS')
       omega
    ·exact j3 b hb he
   ·intro d hd
    by_cases hq : ExB a l x = true ∧ (S = none ∨ ∃ c, S = some c ∧ x < c)
    ·have := j4 x (by unfold updS; rw [if_pos hq])
     rcases hq.2 with h1 | ⟨e, h1, h2⟩
     ·rw [h1] at hd; cases hd
     ·rw [h1] at hd; cases hd; omega
    ·exact j4 d (by unfold updS; rw [if_neg hq]; exact hd)
theorem ex_has {a : S1063} {l : List S1079} {b : Int} (h : SeatOk a) (hm : ∀ m ∈ l, MovOk m) (hl : l.length ≤ 12) (h0 : 0 ≤ b) (h1 : b ≤ 150000000) (he : ExB a l b = true) :
  ∃ m ∈ l, s1113 a m = true ∧ b ≤ m.Moment ∧ m.Moment < b + a.Length := by
 have hw := window_ok h (fun m hmm => ⟨(hm m hmm).s0, (hm m hmm).s1⟩) hl h0 h1;have he := of_decide_eq_true he;rw [hw.2.1] at he;unfold W at he
 cases hf : l.filter (fun m => (s1113 a m && decide (b ≤ m.Moment)) && decide (m.Moment < b + a.Length)) with
 | nil => rw [hf] at he; have := h.m0; simp at he; omega
 | cons m t =>
  have : m ∈ l.filter (fun m => (s1113 a m && decide (b ≤ m.Moment)) && decide (m.Moment < b + a.Length)) := by rw [hf]; exact List.mem_cons_self
  obtain ⟨p, q⟩ := List.mem_filter.1 this;simp only [Bool.and_eq_true, decide_eq_true_eq] at q;exact ⟨m, p, q.1.1, q.1.2, q.2⟩
theorem first_eq {a : S1063} {l : List S1079} (h : SeatOk a) (hm : ∀ m ∈ l, MovOk m) (hl : l.length ≤ 12) :
  (((ownL a l).map S1079.Moment).flatMap (winsOf a)).find? (ExB a l) = (l.flatMap (fun m => winsOf a m.Moment)).foldl (updS a l) none := by
 have hf := updS_fold a l (l.flatMap (fun m => winsOf a m.Moment)) none (fun c h => by cases h)
 have mo : ∀ y, y ∈ ownL a l ↔ y ∈ l ∧ s1116 a y = true := fun y => by
  unfold ownL; rw [(isort_perm ltM (l.filter fun m => s1116 a m)).mem_iff, List.mem_filter]
 have hr : ∀ t ∈ (ownL a l).map S1079.Moment, 0 ≤ t ∧ t ≤ 143999999 := fun t ht => by
  obtain ⟨y, hy, rfl⟩ := List.mem_map.1 ht;have := hm y ((mo y).1 hy).1;exact ⟨this.m0, this.m1⟩
 have sub1 : ∀ b ∈ ((ownL a l).map S1079.Moment).flatMap (winsOf a), b ∈ l.flatMap (fun m => winsOf a m.Moment) := fun b hb => by
  obtain ⟨t, ht, hb⟩ := List.mem_flatMap.1 hb;obtain ⟨y, hy, rfl⟩ := List.mem_map.1 ht;exact List.mem_flatMap.2 ⟨y, ((mo y).1 hy).1, hb⟩
 have sub2 : ∀ b ∈ l.flatMap (fun m => winsOf a m.Moment), ExB a l b = true → b ∈ ((ownL a l).map S1079.Moment).flatMap (winsOf a) := fun b hb he => by
  obtain ⟨m, hmm, hb⟩ := List.mem_flatMap.1 hb;have mk := hm m hmm;rw [wins_iff h mk.m0 mk.m1] at hb;have k1 := mk.m1;obtain ⟨y, hy, hc, h3, h4⟩ := ex_has h hm hl hb.2.1 (by omega) he;have yk := hm y hy;refine List.mem_flatMap.2 ⟨y.Moment, List.mem_map.2 ⟨y, (mo y).2 ⟨hy, hc⟩, rfl⟩, ?_⟩;exact (wins_iff h yk.m0 yk.m1).2 ⟨hb.1, hb.2.1, by omega, h3⟩
 have hso : ((ownL a l).map S1079.Moment).Pairwise (· ≤ ·) := List.pairwise_map.2 (own_sorted a l)
 cases hF : (l.flatMap (fun m => winsOf a m.Moment)).foldl (updS a l) none with
 | none =>
  have := (hf.1 hF).2
  exact List.find?_eq_none.2 fun b hb => by rw [this b (sub1 b hb)]; simp
 | some c =>
  obtain ⟨j1, j2, j3, _⟩ := hf.2 c hF
  have hc : c ∈ l.flatMap (fun m => winsOf a m.Moment) := by
   rcases j2 with j2 | j2
   ·cases j2
   ·exact j2
  cases hP : (((ownL a l).map S1079.Moment).flatMap (winsOf a)).find? (ExB a l) with
  | none => exact absurd j1 (List.find?_eq_none.1 hP c (sub2 c hc j1))
  | some d =>
   have d1 := find_wins h hso hr hP c (sub2 c hc j1) j1;have d2 := j3 d (sub1 d (List.mem_of_find?_eq_some hP)) (List.find?_some hP);rw [show c = d by omega]
theorem ex_p3 (rec2 : Nat → Int → Int → Int → Int → Option (S1071 × Int)) {a : S1063} {l : List S1079} (h : SeatOk a) (hm : ∀ m ∈ l, 0 ≤ m.Seats ∧ m.Seats ≤ 999) (hl : l.length ≤ 12) (k k15 : Nat) : ∀ (ws : List Int) (x y z t : Int), (∀ b ∈ ws, 0 ≤ b ∧ b ≤ 150000000) →
  s1043_l3 rec2 k a ⟨(ownL a l).map S1079.Moment, sums 0 (ownL a l)⟩ k15 ws x y z t = (match ws.find? (ExB a l) with | some b => some (⟨(k : Int), b, s1042 a l b⟩, 0) | none => rec2 (k15 + 1) x y z t)
 | [], x, y, z, t, _ => by rw [s1043_l3]; rfl
 | b :: ws, x, y, z, t, hw => by
  have hb := hw b List.mem_cons_self;rw [s1043_l3, (window_ok h hm hl hb.1 hb.2).1];simp only [bindO];rw [List.find?_cons];unfold ExB
  cases hc : decide (a.Most < s1042 a l b)
  ·rw [cond_false, ex_p3 rec2 h hm hl k k15 ws x y z t fun c hc => hw c (List.mem_cons_of_mem _ hc)]; rfl
  ·rw [cond_true]
theorem ex_p2 (rec1 : Nat → Int → Int → Int → Int → Option (S1071 × Int)) {a : S1063} {l : List S1079} (h : SeatOk a) (hm : ∀ m ∈ l, 0 ≤ m.Seats ∧ m.Seats ≤ 999) (hl : l.length ≤ 12) (k : Nat) : ∀ (ms : List Int) (k15 : Nat) (x y z t : Int), (∀ m ∈ ms, 0 ≤ m ∧ m ≤ 143999999) →
  s1043_l2 rec1 k a ⟨(ownL a l).map S1079.Moment, sums 0 (ownL a l)⟩ ms k15 x y z t = (match (ms.flatMap (winsOf a)).find? (ExB a l) with | some b => some (⟨(k : Int), b, s1042 a l b⟩, 0) | none => rec1 (k + 1) x y z t)
 | [], k15, x, y, z, t, _ => by rw [s1043_l2]; rfl
 | m :: ms, k15, x, y, z, t, hr => by
  have hmr := hr m List.mem_cons_self;rw [s1043_l2, ex_p3 _ h hm hl k k15 _ x y z t (fun b hb => by have := (wins_iff h hmr.1 hmr.2).1 hb; omega), List.flatMap_cons, List.find?_append]
  cases hf : (winsOf a m).find? (ExB a l) with
  | some b => rfl
  | none =>
   have ih := ex_p2 rec1 h hm hl k ms (k15 + 1) x y z t fun c hc => hr c (List.mem_cons_of_mem _ hc)
   simpa using ih
class PureCs (l : List G) : Prop where
 pure : PureL l
instance : PureCs [] := ⟨pureL_nil⟩
instance (c : G) (l : List G) [hc : Pure c] [hl : PureCs l] : PureCs (c :: l) := ⟨fun g hg => by
 rcases List.mem_cons.1 hg with rfl | hg
 ·exact fun _ _ _ _ _ h => hc.pure h
 ·exact hl.pure g hg⟩
theorem fitsT_pure {w w' : World} {M M' : Nat → Prop} : ∀ {l : List G} {vs : List Value}, PureL l → FitsT w M l vs → FitsT w' M' l vs
 | [], [], _, h => h
 | [], _ :: _, _, h => by cases h
 | _ :: _, [], _, h => by cases h
 | c :: l, v :: vs, hp, h => ⟨hp c List.mem_cons_self _ _ _ _ _ h.1, fitsT_pure (fun g hg => hp g (List.mem_cons_of_mem _ hg)) h.2⟩
instance (l : List G) [h : PureCs l] : Pure (.agg l) := ⟨fun ⟨vs, h1, h2⟩ => ⟨vs, h1, Fits.pure h.pure h2⟩⟩
instance (l : List G) [h : PureCs l] : Pure (.tup l) := ⟨fun ⟨vs, h1, h2⟩ => ⟨vs, h1, fitsT_pure h.pure h2⟩⟩
def winsAll (a : S1063) (l : List S1079) : List Int := l.flatMap (fun m => winsOf a m.Moment)
def excR : Option S1071 → S1071 × Int
 | some e => (e, 0)
 | none => (⟨0, 0, 0⟩, 7)
theorem exc_spec {l : List S1079} (hm : ∀ m ∈ l, MovOk m) (hl : l.length ≤ 12) : ∀ (t : List S1063) (k : Nat) (x y z u : Int), (∀ a ∈ t, SeatOk a) →
  ∃ o, s1043_l1 l t k x y z u = some (excR o) ∧ (∀ e, o = some e → ∃ (i : Nat) (a : S1063) (b : Int), t[i]? = some a ∧ e = ⟨((k + i : Nat) : Int), b, s1042 a l b⟩ ∧ ExB a l b = true ∧ b ∈ winsAll a l) ∧
   (o = none → ∀ a ∈ t, ∀ b ∈ winsAll a l, ExB a l b = false)
 | [], k, x, y, z, u, _ => ⟨none, rfl, fun e h => (by cases h), fun _ a ha => by cases ha⟩
 | a :: t, k, x, y, z, u, ht => by
  have ha := ht a List.mem_cons_self;have hs : ∀ m ∈ l, 0 ≤ m.Seats ∧ m.Seats ≤ 999 := fun m hmm => ⟨(hm m hmm).s0, (hm m hmm).s1⟩
  have mo : ∀ t ∈ (ownL a l).map S1079.Moment, 0 ≤ t ∧ t ≤ 143999999 := fun t ht => by
   obtain ⟨y, hy, rfl⟩ := List.mem_map.1 ht;have hy2 := hm y (List.mem_filter.1 ((isort_perm ltM (l.filter fun m => s1116 a m)).mem_iff.1 hy)).1;exact ⟨hy2.m0, hy2.m1⟩
  rw [s1043_l1, s1111_ok a hs hl];simp only [bindO];rw [ex_p2 _ ha hs hl k _ 0 x y z u mo, first_eq ha hm hl];have hf := updS_fold a l (winsAll a l) none (fun c h => by cases h);rw [show l.flatMap (fun m => winsOf a m.Moment) = winsAll a l from rfl]
  cases hF : (winsAll a l).foldl (updS a l) none with
  | some b =>
   obtain ⟨j1, j2, _, _⟩ := hf.2 b hF;refine ⟨some ⟨(k : Int), b, s1042 a l b⟩, rfl, fun e he => ⟨0, a, b, rfl, by cases he; rfl, j1, ?_⟩, fun h => by cases h⟩
   rcases j2 with j2 | j2
   ·cases j2
   ·exact j2
  | none =>
   have h0 := (hf.1 hF).2;obtain ⟨o, o1, o2, o3⟩ := exc_spec hm hl t (k + 1) x y z u fun b hb => ht b (List.mem_cons_of_mem _ hb);refine ⟨o, o1, fun e he => ?_, fun hn b hb => ?_⟩
   ·obtain ⟨i, c, b, q1, q2, q3, q4⟩ := o2 e he;exact ⟨i + 1, c, b, by simpa using q1, by rw [q2]; congr 1; push_cast; omega, q3, q4⟩
   ·rcases List.mem_cons.1 hb with rfl | hb
    ·exact h0
    ·exact o3 hn b hb
def fillM (m : S1079) (x : Int) : S1079 := ⟨m.Moment, m.Kind, m.Terminal, x, m.Size, m.Noise, m.Name⟩
theorem movs_iff (a : List S1079) : ∀ (t : List S1079) (k : Nat), s1099_l1 a s1100 t k = 0 ↔ ∀ y ∈ t, s1100 y [] = 0
 | [], k => by simp [s1099_l1]
 | y :: t, k => by
  rw [s1099_l1];have e : s1100 y (List.take (Int.toNat ((k : Nat) : Int)) a) = s1100 y [] := rfl;rw [e]
  by_cases h : s1100 y [] = 0
  ·rw [decide_eq_false (fun q => q h), cond_false, movs_iff a t (k + 1)]; simp [h]
  ·rw [decide_eq_true h, cond_true]; simp [h]
theorem movs_zero {l : List S1079} : s1027 l = 0 ↔ l.length ≤ 256 ∧ ∀ y ∈ l, s1100 y [] = 0 := by
 unfold s1027 s1099
 by_cases h : (256 : Int) < (l.length : Int)
 ·rw [decide_eq_true h, cond_true];exact ⟨fun q => absurd q (by decide), fun q => absurd q.1 (by omega)⟩
 ·rw [decide_eq_false h, cond_false, movs_iff];exact ⟨fun q => ⟨by omega, q⟩, fun q => q.2⟩
theorem MovOk.fill {m : S1079} (h : MovOk m) {x : Int} (h0 : 0 ≤ x) (h1 : x ≤ 999) : MovOk (fillM m x) := ⟨h.m0, h.m1, h0, h1, h.n0, h.n1, h.kd, h.nm⟩
theorem lims_iff (a : List S1063) : ∀ (t : List S1063) (k : Nat), s1101_l1 a s1102 t k = 0 ↔ ∀ y ∈ t, s1102 y [] = 0
 | [], k => by simp [s1101_l1]
 | y :: t, k => by
  rw [s1101_l1];have e : s1102 y (List.take (Int.toNat ((k : Nat) : Int)) a) = s1102 y [] := rfl;rw [e]
  by_cases h : s1102 y [] = 0
  ·rw [decide_eq_false (fun q => q h), cond_false, lims_iff a t (k + 1)]; simp [h]
  ·rw [decide_eq_true h, cond_true]; simp [h]
theorem lims_zero {l : List S1063} : s1029 l = 0 ↔ l.length ≤ 32 ∧ ∀ y ∈ l, s1102 y [] = 0 := by
 unfold s1029 s1101
 by_cases h : (32 : Int) < (l.length : Int)
 ·rw [decide_eq_true h, cond_true];exact ⟨fun q => absurd q (by decide), fun q => absurd q.1 (by omega)⟩
 ·rw [decide_eq_false h, cond_false, lims_iff];exact ⟨fun q => ⟨by omega, q⟩, fun q => q.2⟩
def sumIf (q : S1079 → Bool) (l : List S1079) : Int := ((l.filter q).map S1079.Seats).sum
theorem sumIf_nil (q : S1079 → Bool) : sumIf q [] = 0 := rfl
theorem sumIf_cons (q : S1079 → Bool) (m : S1079) (l : List S1079) : sumIf q (m :: l) = (if q m = true then m.Seats else 0) + sumIf q l := by
 unfold sumIf;rw [List.filter_cons]
 split
 ·rw [List.map_cons, List.sum_cons]
 ·omega
theorem sumIf_congr {q q1 : S1079 → Bool} : ∀ {l : List S1079}, (∀ m ∈ l, q m = q1 m) → sumIf q l = sumIf q1 l
 | [], _ => rfl
 | m :: l, h => by rw [sumIf_cons, sumIf_cons, h m List.mem_cons_self, sumIf_congr fun y hy => h y (List.mem_cons_of_mem _ hy)]
theorem sumIf_split {q q1 q2 : S1079 → Bool} : ∀ {l : List S1079}, (∀ m ∈ l, q m = (q1 m || q2 m) ∧ (q1 m && q2 m) = false) → sumIf q l = sumIf q1 l + sumIf q2 l
 | [], _ => rfl
 | m :: l, h => by
  rw [sumIf_cons, sumIf_cons, sumIf_cons, sumIf_split fun y hy => h y (List.mem_cons_of_mem _ hy)];obtain ⟨h1, h2⟩ := h m List.mem_cons_self;rw [h1]
  cases e1 : q1 m <;> cases e2 : q2 m <;> rw [e1, e2] at h2 <;> first | (exact absurd h2 (by decide)) | (simp; try omega)
theorem sumIf_zero {q : S1079 → Bool} : ∀ {l : List S1079}, (∀ m ∈ l, q m = false) → sumIf q l = 0
 | [], _ => rfl
 | m :: l, h => by rw [sumIf_cons, h m List.mem_cons_self, sumIf_zero fun y hy => h y (List.mem_cons_of_mem _ hy)]; simp
theorem sumIf_rng (q : S1079 → Bool) : ∀ {l : List S1079}, (∀ m ∈ l, 0 ≤ m.Seats ∧ m.Seats ≤ 999) → 0 ≤ sumIf q l ∧ sumIf q l ≤ sumIf (fun _ => true) l ∧ sumIf (fun _ => true) l ≤ 999 * (l.length : Int)
 | [], _ => by simp [sumIf]
 | m :: l, h => by
  have ih := sumIf_rng q (l := l) fun y hy => h y (List.mem_cons_of_mem _ hy);have hm := h m List.mem_cons_self;rw [sumIf_cons, sumIf_cons, List.length_cons, if_pos rfl]
  split <;> omega
def inW (b n : Int) (m : S1079) : Bool := decide (b ≤ m.Moment) && decide (m.Moment < b + n)
theorem W_sumIf (a : S1063) (l : List S1079) (b : Int) : W a l b = sumIf (fun m => s1113 a m && inW b a.Length m) l := by
 unfold W
 exact sumIf_congr fun m _ => by unfold inW; rw [Bool.and_assoc]
abbrev kA : ByteArray := ⟨#[65]⟩
abbrev kD : ByteArray := ⟨#[68]⟩
abbrev kT : ByteArray := ⟨#[84]⟩
abbrev tN : ByteArray := ⟨#[]⟩
theorem W_kinds {l : List S1079} (h : ∀ m ∈ l, MovOk m) (t : ByteArray) (n s b x : Int) : W ⟨t, kA, n, s, x⟩ l b + W ⟨t, kD, n, s, x⟩ l b = W ⟨t, kT, n, s, x⟩ l b := by
 rw [W_sumIf, W_sumIf, W_sumIf]
 symm
 refine sumIf_split fun m hm => ?_;have hk := (h m hm).kd;unfold s1113
 have d1 : decide (kA = kT) = false := by decide
 have d2 : decide (kD = kT) = false := by decide
 have d3 : decide (kA = kD) = false := by decide
 have d4 : decide (kD = kA) = false := by decide
 dsimp only
 rcases hk with hk | hk
 ·rw [hk];rw [show decide ((⟨#[65]⟩ : ByteArray) = ⟨#[84]⟩) = false from d1, show decide ((⟨#[68]⟩ : ByteArray) = ⟨#[84]⟩) = false from d2, show decide ((⟨#[68]⟩ : ByteArray) = ⟨#[65]⟩) = false from d4]
  simp
 ·rw [hk];rw [show decide ((⟨#[65]⟩ : ByteArray) = ⟨#[84]⟩) = false from d1, show decide ((⟨#[68]⟩ : ByteArray) = ⟨#[84]⟩) = false from d2, show decide ((⟨#[65]⟩ : ByteArray) = ⟨#[68]⟩) = false from d3]
  simp
theorem W_all (l : List S1079) (n s b x : Int) : W ⟨tN, kT, n, s, x⟩ l b = sumIf (inW b n) l := by
 rw [W_sumIf]; exact sumIf_congr fun m _ => by unfold s1113; simp
theorem W_term (l : List S1079) (t : ByteArray) (ht : t ≠ tN) (n s b x : Int) : W ⟨t, kT, n, s, x⟩ l b = sumIf (fun m => decide (t = m.Terminal) && inW b n m) l := by
 rw [W_sumIf]; exact sumIf_congr fun m _ => by unfold s1113; simp [ht]
theorem sum_step {l : List S1079} (n b : Int) (hn : 0 ≤ n) : sumIf (fun m => decide (b ≤ m.Moment)) l = sumIf (inW b n) l + sumIf (fun m => decide (b + n ≤ m.Moment)) l := by
 refine sumIf_split fun m _ => ?_;unfold inW
 by_cases h1 : b ≤ m.Moment <;> by_cases h2 : m.Moment < b + n <;> by_cases h3 : b + n ≤ m.Moment <;> simp [h1, h2, h3] <;> omega
def newT (p : List S1079) (m : S1079) : Bool := !decide (m.Terminal = tN) && !(p.any fun o => decide (o.Terminal = m.Terminal))
theorem newT_step {l p : List S1079} {m : S1079} (n b : Int) :
  sumIf (fun o => newT p o && inW b n o) l = (if newT p m = true then sumIf (fun o => decide (m.Terminal = o.Terminal) && inW b n o) l else 0) + sumIf (fun o => newT (p ++ [m]) o && inW b n o) l := by
 cases hn : newT p m
 ·simp only [Bool.false_eq_true, if_false, Int.zero_add];refine sumIf_congr fun o _ => ?_
  congr 1
  unfold newT at *;rw [List.any_append]
  by_cases ho : m.Terminal = o.Terminal
  ·rw [ho] at hn; rw [hn];simp only [Bool.and_eq_false_iff, Bool.not_eq_false', decide_eq_true_eq] at hn
   rcases hn with hn | hn
   ·simp [hn]
   ·simp [hn]
  ·simp [ho]
 ·simp only [if_true];refine sumIf_split fun o _ => ?_;unfold newT at *;rw [List.any_append]
  by_cases ho : m.Terminal = o.Terminal
  ·rw [ho] at hn; rw [hn]; simp [ho]
  ·simp [ho]
theorem newT_all {l : List S1079} (n b : Int) : sumIf (fun o => newT l o && inW b n o) l = 0 :=
 sumIf_zero fun m hm => by
  unfold newT;have : (l.any fun o => decide (o.Terminal = m.Terminal)) = true := List.any_eq_true.2 ⟨m, hm, by simp⟩
  simp [this]
theorem terms_sum (l : List S1079) (n b : Int) : sumIf (inW b n) l = sumIf (fun o => newT [] o && inW b n o) l + sumIf (fun o => decide (o.Terminal = tN) && inW b n o) l := by
 refine sumIf_split fun m _ => ?_;unfold newT
 by_cases h : m.Terminal = tN <;> simp [h]
def nearM (d : Int) (m : S1079) : S1079 := ⟨1440 * d + Int.tmod m.Moment 4320, m.Kind, m.Terminal, m.Seats, m.Size, m.Noise, m.Name⟩
theorem near_zero {m : S1079} {d : Int} (h : s1100 m [] = 0) (h0 : 0 ≤ d) (h1 : d ≤ 90000) : s1100 (nearM d m) [] = 0 := by
 unfold s1100 at *;rw [s1085_eq, s89_zero] at *;simp only [List.mem_cons, List.not_mem_nil, or_false, forall_eq_or_imp, forall_eq] at *;refine ⟨?_, h.2⟩;have hm := h.1;rw [s1098_eq, s96_zero] at *;have e : Int.tmod m.Moment 4320 = m.Moment % 4320 := Int.tmod_eq_emod_of_nonneg hm.1;unfold nearM;dsimp only;rw [e]; omega
theorem near_ok {l : List S1079} {d : Int} (h : s1027 l = 0) (h0 : 0 ≤ d) (h1 : d ≤ 90000) : s1027 (l.map (nearM d)) = 0 := by
 rw [movs_zero] at *;refine ⟨by rw [List.length_map]; exact h.1, fun y hy => ?_⟩;obtain ⟨m, hm, rfl⟩ := List.mem_map.1 hy;exact near_zero (h.2 m hm) h0 h1
theorem near_rng {m : S1079} {d : Int} (h : MovOk m) : 1440 * d ≤ (nearM d m).Moment ∧ (nearM d m).Moment < 1440 * d + 4320 := by
 have e : Int.tmod m.Moment 4320 = m.Moment % 4320 := Int.tmod_eq_emod_of_nonneg h.m0;unfold nearM;dsimp only;rw [e]; omega
theorem lim_zero {a : S1063} (ht : s1089 a.Terminal = 0) (hk : a.Kind = kA ∨ a.Kind = kD ∨ a.Kind = kT) (l0 : 1 ≤ a.Length) (l1 : a.Length ≤ 1440) (q0 : 1 ≤ a.Step) (q1 : a.Step ≤ a.Length) (m0 : 0 ≤ a.Most) (m1 : a.Most ≤ 999999999) : s1029 [a] = 0 := by
 rw [lims_zero];refine ⟨by simp, fun y hy => ?_⟩;rw [List.mem_singleton.1 hy];unfold s1102;rw [s1085_eq, s89_zero]
 have hk2 : s1086 (!(s88 [⟨#[65]⟩, ⟨#[68]⟩, ⟨#[84]⟩] a.Kind)) 13 = 0 := by
  rcases hk with h | h | h <;> rw [h] <;> decide
 simp only [List.mem_cons, List.not_mem_nil, or_false, forall_eq_or_imp, forall_eq]
 refine ⟨ht, hk2, ?_, ?_, ?_⟩ <;> rw [s1088_eq, s90_zero] <;> omega
theorem seats_say {a : S1063} {l : List S1079} {b : Int} (hl : s1029 [a] = 0) (hm : s1027 l = 0) (h8 : l.length ≤ 8) (b0 : 0 ≤ b) (b1 : b ≤ 143999999) : s1039 a l b = some (W a l b, 0) ∧ 0 ≤ W a l b ∧ W a l b ≤ 7992 := by
 have ha := (seats_ok hl).2 a (by simp);have hmo := (movs_ok hm).2;have rs : ∀ y ∈ l, 0 ≤ y.Seats ∧ y.Seats ≤ 999 := fun y hy => ⟨(hmo y hy).s0, (hmo y hy).s1⟩;have hw := window_ok ha rs (by omega) b0 (by omega : b ≤ 150000000)
 have c2 : s1098 b = 0 := by rw [s1098_eq, s96_zero]; omega
 refine ⟨?_, ?_⟩
 ·unfold s1039;rw [s1085_eq, (s89_zero [s1029 [a], s1027 l, s1098 b]).2 (by simp [hl, hm, c2]), s1111_ok a rs (by omega)];simp only [bindO];rw [hw.1, ← hw.2.1]; rfl
 ·rw [W_sumIf];have := sumIf_rng (fun m => s1113 a m && inW b a.Length m) rs
  omega
theorem exc_say {a : S1063} {l : List S1079} (hl : s1029 [a] = 0) (hm : s1027 l = 0) (h8 : l.length ≤ 8) (ht : a.Most = sumIf (fun _ => true) l) : ∃ w, s1043 [a] l = some (w, 7) := by
 have ha : ∀ x ∈ [a], SeatOk x := (seats_ok hl).2;have hmo := (movs_ok hm).2;have rs : ∀ y ∈ l, 0 ≤ y.Seats ∧ y.Seats ≤ 999 := fun y hy => ⟨(hmo y hy).s0, (hmo y hy).s1⟩;obtain ⟨o, o1, o2, o3⟩ := exc_spec hmo (by omega) [a] 0 0 0 0 0 ha
 have e : s1043 [a] l = s1043_l1 l [a] 0 0 0 0 0 := by
  unfold s1043;rw [s1085_eq, (s89_zero [s1029 [a], s1027 l]).2 (by simp [hl, hm])]
  rfl
 rw [e, o1]
 cases o with
 | none => exact ⟨_, rfl⟩
 | some c =>
  exfalso
  obtain ⟨i, x, b, q1, _, q3, q4⟩ := o2 c rfl
  have hx : x = a := by
   cases i with
   | zero => simpa using q1.symm
   | succ i => simp at q1
  subst hx;obtain ⟨y, hy, hyb⟩ := List.mem_flatMap.1 q4;have hyo := hmo y hy;have hyb := (wins_iff (ha x (by simp)) hyo.m0 hyo.m1).1 hyb;have k1 := hyo.m1;have hw := window_ok (ha x (by simp)) rs (by omega) hyb.2.1 (by omega : b ≤ 150000000);have q3 := of_decide_eq_true q3;rw [hw.2.1, W_sumIf, ht] at q3;have := sumIf_rng (fun m => s1113 x m && inW b x.Length m) rs
  omega
theorem guard9 {n : Nat} {a1 a2 : Int} {P Q R : Prop} (h : ((((((P ∧ ¬ 8 < (n : Int)) ∧ Q) ∧ R) ∧ ¬ a1 < 60) ∧ ¬ 1440 < a1) ∧ ¬ s90 a2 0 90000 ≠ 0)) : n ≤ 8 ∧ 60 ≤ a1 ∧ a1 ≤ 1440 ∧ 0 ≤ a2 ∧ a2 ≤ 90000 := by
 obtain ⟨⟨⟨⟨⟨⟨_, h8⟩, _⟩, _⟩, h1⟩, h2⟩, h⟩ := h;have h := (s90_zero a2 0 90000).1 (Decidable.not_not.1 h)
 omega
section
variable {E : Env} {w0 : World} {M0 : Nat → Prop}
theorem eff_allocV {o : Oper} {mem : Mem} {ev : Operand → TV} {t : TypeId} {zs : List Value} {N k : Nat} {c : List G} (id : Nat) (ho : o.op = .alloc t) (hz : zeroK E.P t = some zs) (hz1 : zs.all Value.oneCell' = true) (hN : N ≤ maxLen)
  (hc : zs.map G.lit = (List.replicate N c).flatten) (hk : c.length = k) (hf : lookO mem id = none) :
  EffW E o mem ev (.eptr id k 0 0) ((id, .arr t k (List.replicate N c)) :: mem) none := by
 intro w0 M0 ρ w e hm _;have hr0 := rho_none hm hf;have hg := Grow.alloc w (.cells zs.toArray t)
 have hM : ∀ b, b < w.heap.size → owned M0 (rhoSet ρ id (some ⟨w.heap.size, 0, N⟩)) b → owned M0 ρ b := by
  rintro b hb (h | ⟨i, o, h, rfl⟩)
  ·exact .inl h
  ·by_cases hi : i = id
   ·subst hi; rw [rhoSet_same] at h; cases h; simp at hb
   ·exact .inr ⟨i, o, by simpa [rhoSet, hi] using h, rfl⟩
 have hzf : Fits w (owned M0 ρ) (List.replicate N c).flatten zs := by rw [← hc]; exact fits_lits (fun v hv => List.all_eq_true.1 hz1 v hv)
 have hzl : zs.length = N * k := by rw [hzf.length]; simp [hk]
 have hrun : (execOp e o).run E.P w = .ok (.value (.pointer (some ⟨w.heap.size, 0, none⟩))) (w.alloc (.cells zs.toArray t)) := by
  simp [execOp, ho, run_alloc hz]
 rw [hrun];obtain ⟨g1, g2⟩ := mrel_upd (id := id) (x := some ⟨w.heap.size, 0, N⟩) (blk' := .arr t k (List.replicate N c)) none hm (diff_alloc ρ id w (.cells zs.toArray t)) (fun o ho => by cases ho; exact ⟨.inl (Nat.le_refl _), by simp⟩) (.inr ⟨rfl, .inl hr0⟩) (fun _ b _ _ => noref_none b) (.inl rfl)
  (.inr ⟨⟨w.heap.size, 0, N⟩, _, rhoSet_same _ _ _, heap_alloc_new w _, by simp, hN, .inr (by show 0 + N * k ≤ _; simp [hzl]), fun d hd => by
   rw [List.eq_of_mem_replicate hd]; exact hk, by
   show Fits _ _ _ ((List.drop 0 _).take _);rw [List.drop_zero, List.length_replicate, List.take_of_length_le (by simp [hzl])]
   exact hzf.mono hg.hh hM⟩)
 exact ⟨_, g1, g2, ⟨w.heap.size, 0, N⟩, rhoSet_same _ _ _, by simp⟩
theorem eff_indexV {o : Oper} {ev : Operand → TV} {t el : TypeId} {x ix : Operand} {k id N : Nat} {b : Bool} {kk : IntKind} {n : Int} (ho : o.op = .indexAddr t x ix)
  (ht : E.P.underlying t = some (.array N el)) (he : tyK E.P el = some (k, b)) (hx : ev x = .eptr id k 0 0) (hi' : ev ix = .g (.lit (.int kk n))) (h0 : 0 ≤ n) (hn : n.toNat < N) (mem : Mem) :
  Eff E o mem ev (.eptr id k n.toNat 0) :=
 eff_same (fun w M ρ e' hev => by
  have h1 := hev x (by rw [ho]; simp [Op.operands]);rw [hx] at h1;have h2 := hev ix (by rw [ho]; simp [Op.operands]);rw [hi'] at h2;have h2' : e' ix = .int kk n := h2;obtain ⟨ow, g1, g2⟩ := h1
  have hn' : n < (N : Int) := by omega
  refine ⟨.pointer (some ⟨ow.b, ow.o + n.toNat * k, none⟩), ?_, ow, g1, by simp⟩;simp only [execOp, ho, g2, h2']
  simp [Instr.indexAt, asIntOf, underlying, ht, run_sizeOf he, h0, hn', Instr.sureAddr, Addr.add_lit]) mem
end
end Go.Sim
set_option maxRecDepth 10000
namespace Go.Sim
open Go.Proofs
def s1009_j1 (rec5 : Nat → Int → Option Bool) (k27 : Nat) (x31 : Int) : Option Bool :=
 rec5 (k27 + 1) x31
def s1009_l5 (rec2 : Int → Int → Option Bool) (a1 : Int) (x7 : Int) (x8 : Int) (x11 : List Int) (y19 : Int) : List S1079 → Nat → Int → Option Bool
 | [], k27, x25 => bindO (ixO x11 2) fun y30 => (bif decide (x25 ≠ y30) then some false else rec2 (IntKind.i64.wrap (x7 + y19)) (x8 + a1))
 | y28 :: t29, k27, x25 => (bif ((decide (y28.Terminal = (⟨#[]⟩))) && (decide (x8 ≤ y28.Moment))) && (decide (y28.Moment < x8 + a1)) then s1009_j1 (fun k_ z0_ => s1009_l5 rec2 a1 x7 x8 x11 y19 t29 k_ z0_) k27 (IntKind.i64.wrap (x25 + y28.Seats)) else s1009_j1 (fun k_ z0_ => s1009_l5 rec2 a1 x7 x8 x11 y19 t29 k_ z0_) k27 x25)
def s1009_j2 (rec4 : Nat → Int → Option Bool) (k22 : Nat) (x32 : Int) : Option Bool :=
 rec4 (k22 + 1) x32
def s1009_l6 (rec4 : Nat → Int → Option Bool) (a1 : Int) (x2 : List S1079) (x8 : Int) (x20 : Int) (k22 : Nat) (y23 : S1079) : List S1079 → Nat → Bool → Option Bool
 | [], k35, x33 => (bif x33 then s1009_j2 rec4 k22 x20 else bindO (s1039 (S1063.mk y23.Terminal (⟨#[84]⟩) a1 1 0) x2 x8) fun r38 => (bif ((decide (r38.2 ≠ 0)) || (decide (r38.1 < 0))) || (decide (8000 < r38.1)) then some false else s1009_j2 rec4 k22 (IntKind.i64.wrap (x20 + r38.1))))
 | y36 :: t37, k35, x33 => s1009_l6 rec4 a1 x2 x8 x20 k22 y23 t37 (k35 + 1) (x33 || (decide (y36.Terminal = y23.Terminal)))
def s1009_l4 (rec2 : Int → Int → Option Bool) (a1 : Int) (x2 : List S1079) (x7 : Int) (x8 : Int) (x11 : List Int) (y19 : Int) : List S1079 → Nat → Int → Option Bool
 | [], k22, x20 => s1009_l5 rec2 a1 x7 x8 x11 y19 x2 0 x20
 | y23 :: t24, k22, x20 => s1009_l6 (fun k_ z0_ => s1009_l4 rec2 a1 x2 x7 x8 x11 y19 t24 k_ z0_) a1 x2 x8 x20 k22 y23 (List.take (Int.toNat ((k22 : Nat) : Int)) x2) 0 (decide (y23.Terminal = (⟨#[]⟩)))
def s1009_l3 (rec2 : Int → Int → Option Bool) (a1 : Int) (x2 : List S1079) (x7 : Int) (x8 : Int) : List ByteArray → Nat → (List Int) → Option Bool
 | [], k13, x11 => bindO (ixO x11 0) fun y16 => bindO (ixO x11 1) fun y17 => bindO (ixO x11 2) fun y18 => (bif decide (IntKind.i64.wrap (y16 + y17) ≠ y18) then some false else bindO (ixO x11 2) fun y19 => s1009_l4 rec2 a1 x2 x7 x8 x11 y19 x2 0 0)
 | y14 :: t15, k13, x11 => bindO (s1039 (S1063.mk ByteArray.empty y14 a1 1 0) x2 x8) fun r39 => (bif ((decide (r39.2 ≠ 0)) || (decide (r39.1 < 0))) || (decide (8000 < r39.1)) then some false else bindO (ixO x11 ((k13 : Nat) : Int)) fun y40 => s1009_l3 rec2 a1 x2 x7 x8 t15 (k13 + 1) (List.set x11 (Int.toNat ((k13 : Nat) : Int)) r39.1))
def s1009_l2 (a1 : Int) (a2 : Int) (x1 : Int) (x2 : List S1079) : Nat → Int → Int → Option Bool
 | 0, _, _ => none
 | k9 + 1, x7, x8 => (bif decide (x8 < (1440 * a2) + 4320) then s1009_l3 (fun z0_ z1_ => s1009_l2 a1 a2 x1 x2 k9 z0_ z1_) a1 x2 x7 x8 ([⟨#[65]⟩, ⟨#[68]⟩, ⟨#[84]⟩] : List ByteArray) 0 (List.replicate 3 0) else bindO (s1043 ([(S1063.mk ByteArray.empty (⟨#[84]⟩) a1 a1 x1)] : List S1063) x2) fun r41 => some ((decide (x7 = x1)) && (decide (r41.2 = 7))))
def s1009_l1 (a1 : Int) (a2 : Int) : List S1079 → Nat → Int → (List S1079) → Option Bool
 | [], k4, x1, x2 => s1009_l2 a1 a2 x1 x2 (((1440 * a2 + 4320 - (1440 * a2)).toNat) + 1) 0 (1440 * a2)
 | y5 :: t6, k4, x1, x2 => s1009_l1 a1 a2 t6 (k4 + 1) (IntKind.i64.wrap (x1 + y5.Seats)) (x2 ++ ([(S1079.mk (IntKind.i64.wrap ((1440 * a2) + (Int.tmod y5.Moment 4320))) y5.Kind y5.Terminal y5.Seats y5.Size y5.Noise y5.Name)] : List S1079))
noncomputable def s1009 (a0 : List S1079) (a1 : Int) (a2 : Int) : Option Bool :=
 (bif ((((((!s1015) || (decide (8 < (List.length a0 : Int)))) || (!(s1020 a0 8))) || (decide ((s1028 a0) ≠ 0))) || (decide (a1 < 60))) || (decide (1440 < a1))) || (decide ((s90 a2 0 90000) ≠ 0)) then some s1015 else s1009_l1 a1 a2 a0 0 0 [])
set_option maxHeartbeats 16000000 in
theorem c1009 (a0 : List S1079) (a1 : Int) (a2 : Int) {R : Bool}   (hR : s1009 a0 a1 a2 = some R) : Con (EG glT) 9 [G.sl 7 (List.map S1079.c a0), G.int a1, G.int a2] (G.bool R) := by
 unfold s1009 at hR;refine con_of_aw Tryz.func9 rfl rfl fun w0 M0 => ?_;refine len_sl (f := S1079.c) (l := a0) 0 rfl fun hla0 => ?_;refine aw_seq ?_;refine aw_region [.p] ?_;refine st rfl rfl (eff_assigng rfl rfl) rfl ?_;refine st_nil ?_;refine aw_seq ?_;refine aw_seq ?_;refine aw_region [.p, .p, .p, .p, .p, .p, .p, .p, .p, .p, .p, .p, .p, .p, .p, .p, .p, .p, .p, .p, .p, .p, .p, .p, .p, .p, .p, .p, .p, .p] ?_;refine st rfl rfl (eff_call rfl K1015 rfl (c1015) ag_nil) rfl ?_;refine st rfl rfl (eff_not rfl rfl) rfl ?_;refine st rfl rfl (eff_moveg rfl rfl) rfl ?_;refine st_g rfl rfl rfl (gb_bool _ _) (fun h => eff_moveg rfl rfl) rfl ?_;refine st_g rfl rfl rfl (gb_bool _ _) (fun h => eff_lenM (f := S1079.c) (l := a0) rfl Tryz.underlying25 (gd h rfl)) rfl ?_;refine st_g rfl rfl rfl (gb_bool _ _) (fun h => eff_gtr rfl (gd h rfl) rfl) rfl ?_;refine st rfl rfl (eff_or rfl rfl rfl rfl) rfl ?_;refine st rfl rfl (eff_moveg rfl rfl) rfl ?_;refine st_g rfl rfl rfl (gb_bool _ _) (fun h => eff_moveg rfl rfl) rfl ?_;refine st_g rfl rfl rfl (gb_bool _ _) (fun h => eff_call rfl K1020 rfl (c1020 a0 8) (ag_cons (gd h rfl) (ag_cons rfl ag_nil))) rfl ?_;refine st_g rfl rfl rfl (gb_bool _ _) (fun h => eff_not rfl (gd h rfl)) rfl ?_;refine st rfl rfl (eff_or rfl rfl rfl rfl) rfl ?_;refine st rfl rfl (eff_moveg rfl rfl) rfl ?_;refine st_g rfl rfl rfl (gb_bool _ _) (fun h => eff_moveg rfl rfl) rfl ?_;refine st_g rfl rfl rfl (gb_bool _ _) (fun h => eff_call rfl K1028 rfl (c1028 a0) (ag_cons (gd h rfl) ag_nil)) rfl ?_;refine st_g rfl rfl rfl (gb_bool _ _) (fun h => eff_neq rfl (gd h rfl) rfl) rfl ?_;refine st rfl rfl (eff_or rfl rfl rfl rfl) rfl ?_;refine st rfl rfl (eff_moveg rfl rfl) rfl ?_;refine st_g rfl rfl rfl (gb_bool _ _) (fun h => eff_moveg rfl rfl) rfl ?_;refine st_g rfl rfl rfl (gb_bool _ _) (fun h => eff_lss rfl (gd h rfl) rfl) rfl ?_;refine st rfl rfl (eff_or rfl rfl rfl rfl) rfl ?_;refine st rfl rfl (eff_moveg rfl rfl) rfl ?_;refine st_g rfl rfl rfl (gb_bool _ _) (fun h => eff_moveg rfl rfl) rfl ?_;refine st_g rfl rfl rfl (gb_bool _ _) (fun h => eff_gtr rfl (gd h rfl) rfl) rfl ?_;refine st rfl rfl (eff_or rfl rfl rfl rfl) rfl ?_;refine st rfl rfl (eff_moveg rfl rfl) rfl ?_;refine st_g rfl rfl rfl (gb_bool _ _) (fun h => eff_moveg rfl rfl) rfl ?_;refine st_g rfl rfl rfl (gb_bool _ _) (fun h => eff_call rfl K90 rfl (c90 a2 0 90000) (ag_cons (gd h rfl) (ag_cons rfl (ag_cons rfl ag_nil)))) rfl ?_;refine st_g rfl rfl rfl (gb_bool _ _) (fun h => eff_neq rfl (gd h rfl) rfl) rfl ?_;refine st rfl rfl (eff_or rfl rfl rfl rfl) rfl ?_;refine st_nil ?_;refine aw_cond _ rfl (fun h1 => ?_) (fun h1 => ?_)
 ·replace h1 : (((((((!s1015) || (decide (8 < (List.length a0 : Int)))) || (!(s1020 a0 8))) || (decide ((s1028 a0) ≠ 0))) || (decide (a1 < 60))) || (decide (1440 < a1))) || (decide ((s90 a2 0 90000) ≠ 0))) = true := h1;replace hR := condT hR h1;(try simp only [Bool.or_eq_true, Bool.and_eq_true, Bool.or_eq_false_iff, Bool.and_eq_false_iff, Bool.not_eq_true', Bool.not_eq_false', decide_eq_true_eq, decide_eq_false_iff_not] at h1);refine aw_seq ?_;refine aw_region [.p, .p] ?_;refine st rfl rfl (eff_call rfl K1015 rfl (c1015) ag_nil) rfl ?_;refine st rfl rfl (eff_assigng rfl rfl) rfl ?_;refine st_nil ?_;refine aw_ret ?_;exact res_e (res_c rfl (rv_g rfl)) (congrArg (fun R_ => G.bool R_) (Option.some.inj hR))
 ·replace h1 : (((((((!s1015) || (decide (8 < (List.length a0 : Int)))) || (!(s1020 a0 8))) || (decide ((s1028 a0) ≠ 0))) || (decide (a1 < 60))) || (decide (1440 < a1))) || (decide ((s90 a2 0 90000) ≠ 0))) = false := h1;replace hR := condF hR h1;(try simp only [Bool.or_eq_true, Bool.and_eq_true, Bool.or_eq_false_iff, Bool.and_eq_false_iff, Bool.not_eq_true', Bool.not_eq_false', decide_eq_true_eq, decide_eq_false_iff_not] at h1);obtain ⟨hl9, hn0, hn1, hd0, hd1⟩ := guard9 h1;refine aw_skip ?_;refine aw_seq ?_;refine aw_region [.p] ?_;refine st rfl rfl (eff_assigng rfl rfl) rfl ?_;refine st_nil ?_;refine aw_seq ?_;refine aw_region [.w] ?_;refine st_w rfl rfl (eff_nilL 8 80 7 rfl rfl rfl) rfl ?_;refine st_nil ?_;refine aw_seq ?_;refine aw_seq ?_;refine aw_region [.p, .p, .p] ?_;refine st rfl rfl (eff_moveg rfl rfl) rfl ?_;refine st rfl rfl (eff_lenM (f := S1079.c) (l := a0) rfl Tryz.underlying25 rfl) rfl ?_;refine st rfl rfl (eff_moveg rfl rfl) rfl ?_;refine st_nil ?_;refine aw_block ?_;refine aw_loop_g (γ := Nat × (List S1079) × Int × (List S1079)) (fun g => ([(1, .g (G.int a1)), (2, .g (G.int a2)), (7, .g (G.int g.2.2.1)), (8, .osl 8 7 0 (List.length g.2.2.2)), (61, .g (G.sl 7 (List.map S1079.c a0))), (62, .g (G.int (List.length a0 : Int))), (63, .g (G.int ((g.1 : Nat) : Int)))], [(8, .arr 80 7 (List.map S1079.c g.2.2.2))])) (fun g => g.2.2.2.length ≤ g.1 ∧ g.1 ≤ a0.length ∧ a0.drop g.1 = g.2.1 ∧ s1009_l1 a1 a2 g.2.1 g.1 g.2.2.1 g.2.2.2 = some R) (fun g => List.length g.2.1) ⟨rfl, (0, a0, 0, []), ⟨rfl, rfl, rfl, rfl, rfl, rfl, rfl, trivial⟩, ⟨rfl, trivial⟩, rfl, ⟨(by first | (simp; done) | (simp; omega)), (by first | (simp; done) | (simp; omega)), rfl, (by exact hR)⟩, trivial⟩ ?_
  ·rintro ⟨k4, t6, x1, x2⟩ ⟨iv1_0, iv1_1, hd, hR⟩;replace hd : a0.drop k4 = t6 := hd;replace hR : s1009_l1 a1 a2 t6 k4 x1 x2 = some R := hR;replace iv1_0 : x2.length ≤ k4 := iv1_0;replace iv1_1 : k4 ≤ a0.length := iv1_1;refine aw_seq ?_;refine aw_region [.p] ?_;refine st rfl rfl (eff_lss rfl rfl rfl) rfl ?_;refine st_nil ?_;refine len_sl (f := S1079.c) (l := a0) 61 rfl fun hlz1 => ?_;refine aw_seq ?_;refine aw_cond _ rfl (fun h2 => ?_) (fun h2 => ?_)
   ·replace h2 : (decide (((k4 : Nat) : Int) < (List.length a0 : Int))) = true := h2;obtain ⟨y5, t6, rfl, hx1, hd⟩ := drop_cons hd (decT h2);replace h2 := decT h2;rw [s1009_l1] at hR;(try dsimp only at hR);refine aw_skip ?_;refine aw_seq ?_;refine aw_block ?_;refine aw_seq ?_;refine aw_region [.p, .p, .w, .w] ?_;refine st rfl rfl (eff_ix (f := S1079.c) (l := a0) (a := y5) rfl Tryz.underlying25 ty1080 rfl rfl (Int.natCast_nonneg _) hx1) rfl ?_;refine st rfl rfl (eff_loadA rfl ty1080 rfl rfl rfl) rfl ?_;refine st_w rfl rfl (eff_alloc 10 rfl z1080 rfl rfl) rfl ?_;refine st_wn rfl rfl (eff_store (tv := .g (G.agg [G.int y5.Moment, G.str y5.Kind, G.str y5.Terminal, G.int y5.Seats, G.int y5.Size, G.int y5.Noise, G.str y5.Name])) rfl ty1080 rfl rfl rfl rfl rfl) ?_;refine st_nil ?_;refine aw_seq ?_;refine aw_region [.p, .p, .p, .r, .p, .p, .p, .w] ?_;refine st rfl rfl (eff_moveg rfl rfl) rfl ?_;refine st rfl rfl (eff_mul rfl rfl rfl (by unfold I64; (try dsimp only); omega)) rfl ?_;refine st rfl rfl (eff_fieldO rfl fl1080_0 rfl) rfl ?_;refine st_r rfl rfl (eff_loadO rfl ty3 rfl rfl rfl) rfl ?_;refine st rfl rfl (eff_remt rfl rfl rfl (by decide)) rfl ?_;refine st rfl rfl (eff_addw rfl rfl rfl) rfl ?_;refine st rfl rfl (eff_fieldO rfl fl1080_0 rfl) rfl ?_;refine st_wn rfl rfl (eff_store (tv := .g (G.int (IntKind.i64.wrap ((1440 * a2) + (Int.tmod y5.Moment 4320))))) rfl ty3 rfl rfl rfl rfl rfl) ?_;refine st_nil ?_;refine aw_seq ?_;refine aw_region [.p, .r, .p, .k, .p] ?_;refine st rfl rfl (eff_moveO rfl rfl) rfl ?_;refine st_r rfl rfl (eff_loadOA rfl ty1080 rfl rfl rfl rfl) rfl ?_;refine st rfl rfl (eff_buildSlice rfl Tryz.underlying25 ty1080 z1080 rfl (ps_cons rfl ps_nil) rfl (by exact lens rfl) (by decide)) rfl ?_;refine st_k rfl rfl (eff_appL (f := S1079.c) (out := x2) (new := ([(S1079.mk (IntKind.i64.wrap ((1440 * a2) + (Int.tmod y5.Moment 4320))) y5.Kind y5.Terminal y5.Seats y5.Size y5.Noise y5.Name)] : List S1079)) rfl app1025 rfl rfl (src_eq rfl (src_sl (by decide) (by simp [S1079.c]))) (refsN rfl) (by simp; omega)) rfl ?_;refine st rfl rfl (eff_assignO rfl rfl) rfl ?_;refine st_nil ?_;refine aw_region [.p, .p, .r, .p, .p] ?_;refine st rfl rfl (eff_moveg rfl rfl) rfl ?_;refine st rfl rfl (eff_fieldO rfl fl1080_3 rfl) rfl ?_;refine st_r rfl rfl (eff_loadO rfl ty3 rfl rfl rfl) rfl ?_;refine st rfl rfl (eff_addw rfl rfl rfl) rfl ?_;refine st rfl rfl (eff_assigng rfl rfl) rfl ?_;refine st_nil ?_;refine aw_region [.p, .p] ?_;refine st rfl rfl (eff_add rfl rfl rfl (by unfold I64; omega)) rfl ?_;refine st rfl rfl (eff_moveg rfl rfl) rfl ?_;refine st_nil ?_;exact ⟨rfl, (k4 + 1, t6, IntKind.i64.wrap (x1 + y5.Seats), x2 ++ ([(S1079.mk (IntKind.i64.wrap ((1440 * a2) + (Int.tmod y5.Moment 4320))) y5.Kind y5.Terminal y5.Seats y5.Size y5.Noise y5.Name)] : List S1079)), ⟨rfl, rfl, rfl, rfl, rfl, rfl, rfl, trivial⟩, ⟨rfl, trivial⟩, rfl, ⟨(by first | omega | (dsimp only; omega) | (simp at *; omega)), (by first | omega | (dsimp only; omega) | (simp at *; omega)), hd, hR⟩, by simp⟩
   ·replace h2 : (decide (((k4 : Nat) : Int) < (List.length a0 : Int))) = false := h2;obtain rfl := drop_nil hd (decF h2);rw [s1009_l1] at hR;refine aw_exit ?_;refine aw_seq ?_;refine aw_freeze (l := [(1, .g (G.int a1)), (2, .g (G.int a2)), (7, .g (G.int x1)), (8, .g (G.sl 7 (List.map S1079.c x2)))]) (m := []) 8 rfl ⟨.inl ⟨rfl, rfl⟩, .inl ⟨rfl, rfl⟩, .inl ⟨rfl, rfl⟩, .inr (frz_arr rfl), trivial⟩ trivial rfl rfl ?_;refine aw_region [.p] ?_;refine st rfl rfl (eff_assigng rfl rfl) rfl ?_;refine st_nil ?_;refine aw_seq ?_;refine aw_seq ?_;refine aw_region [.p, .p, .p] ?_;refine st rfl rfl (eff_moveg rfl rfl) rfl ?_;refine st rfl rfl (eff_mul rfl rfl rfl (by unfold I64; (try dsimp only); omega)) rfl ?_;refine st rfl rfl (eff_assigng rfl rfl) rfl ?_;refine st_nil ?_;refine aw_block ?_;refine aw_loop_g (γ := Nat × Int × Int) (fun g => ([(1, .g (G.int a1)), (2, .g (G.int a2)), (7, .g (G.int x1)), (8, .g (G.sl 7 (List.map S1079.c x2))), (11, .g (G.int g.2.1)), (12, .g (G.int g.2.2))], [])) (fun g => (1440 * a2 + 4320 - g.2.2).toNat < g.1 ∧ 1440 * a2 ≤ g.2.2 ∧ g.2.2 ≤ 1440 * a2 + 5760 ∧ s1009_l2 a1 a2 x1 x2 g.1 g.2.1 g.2.2 = some R) (fun g => g.1) ⟨rfl, (((1440 * a2 + 4320 - (1440 * a2)).toNat) + 1, 0, 1440 * a2), ⟨rfl, rfl, rfl, rfl, rfl, rfl, trivial⟩, trivial, rfl, ⟨Nat.lt_succ_self _, (by first | omega | (dsimp only; omega) | simp), (by first | omega | (dsimp only; omega) | simp), (by exact hR)⟩, trivial⟩ ?_
    ·rintro ⟨k9, x7, x8⟩ ⟨hk2, iv2_0, iv2_1, hR⟩;replace hk2 : (1440 * a2 + 4320 - x8).toNat < k9 := hk2;replace hR : s1009_l2 a1 a2 x1 x2 k9 x7 x8 = some R := hR;replace iv2_0 : 1440 * a2 ≤ x8 := iv2_0;replace iv2_1 : x8 ≤ 1440 * a2 + 5760 := iv2_1;obtain ⟨k9, rfl⟩ : ∃ m, k9 = m + 1 := ⟨k9 - 1, by omega⟩;rw [s1009_l2] at hR;(try dsimp only at hR);refine aw_seq ?_;refine aw_seq ?_;refine aw_region [.p, .p, .p, .p, .p] ?_;refine st rfl rfl (eff_moveg rfl rfl) rfl ?_;refine st rfl rfl (eff_moveg rfl rfl) rfl ?_;refine st rfl rfl (eff_mul rfl rfl rfl (by unfold I64; (try dsimp only); omega)) rfl ?_;refine st rfl rfl (eff_add rfl rfl rfl (by unfold I64; (try dsimp only); omega)) rfl ?_;refine st rfl rfl (eff_lss rfl rfl rfl) rfl ?_;refine st_nil ?_;refine aw_cond _ rfl (fun h4 => ?_) (fun h4 => ?_)
     ·replace h4 : (decide (x8 < (1440 * a2) + 4320)) = true := h4;replace hR := condT hR h4;(try simp only [Bool.or_eq_true, Bool.and_eq_true, Bool.or_eq_false_iff, Bool.and_eq_false_iff, Bool.not_eq_true', Bool.not_eq_false', decide_eq_true_eq, decide_eq_false_iff_not] at h4);refine aw_skip ?_;refine aw_seq ?_;refine aw_block ?_;refine aw_seq ?_;refine aw_region [.w] ?_;refine st_w rfl rfl (eff_allocV (N := 3) (c := [G.int 0]) 13 rfl z239 rfl (by decide) rfl rfl rfl) rfl ?_;refine st_nil ?_;refine aw_seq ?_;refine aw_seq ?_;refine aw_region [.p, .p, .p] ?_;refine st rfl rfl (eff_buildSlice rfl Tryz.underlying104 ty9 z9 rfl (ps_cons rfl (ps_cons rfl (ps_cons rfl ps_nil))) rfl (by simp []) (by decide)) rfl ?_;refine st rfl rfl (eff_lenM (f := cStr) (l := ([⟨#[65]⟩, ⟨#[68]⟩, ⟨#[84]⟩] : List ByteArray)) rfl Tryz.underlying104 rfl) rfl ?_;refine st rfl rfl (eff_moveg rfl rfl) rfl ?_;refine st_nil ?_;refine aw_block ?_;refine aw_loop_g (γ := Nat × (List ByteArray) × (List Int)) (fun g => ([(1, .g (G.int a1)), (2, .g (G.int a2)), (7, .g (G.int x1)), (8, .g (G.sl 7 (List.map S1079.c x2))), (11, .g (G.int x7)), (12, .g (G.int x8)), (13, .eptr 13 1 0 0), (93, .g (G.sl 1 (List.map cStr ([⟨#[65]⟩, ⟨#[68]⟩, ⟨#[84]⟩] : List ByteArray)))), (94, .g (G.int (List.length ([⟨#[65]⟩, ⟨#[68]⟩, ⟨#[84]⟩] : List ByteArray) : Int))), (95, .g (G.int ((g.1 : Nat) : Int)))], [(13, .arr 103 1 (List.map cInt g.2.2))])) (fun g => List.length g.2.2 = 3 ∧ ([⟨#[65]⟩, ⟨#[68]⟩, ⟨#[84]⟩] : List ByteArray).drop g.1 = g.2.1 ∧ s1009_l3 (fun z0_ z1_ => s1009_l2 a1 a2 x1 x2 k9 z0_ z1_) a1 x2 x7 x8 g.2.1 g.1 g.2.2 = some R) (fun g => List.length g.2.1) ⟨rfl, (0, ([⟨#[65]⟩, ⟨#[68]⟩, ⟨#[84]⟩] : List ByteArray), List.replicate 3 0), ⟨rfl, rfl, rfl, rfl, rfl, rfl, rfl, rfl, rfl, rfl, trivial⟩, ⟨rfl, trivial⟩, rfl, ⟨List.length_replicate, rfl, (by exact hR)⟩, trivial⟩ ?_
      ·rintro ⟨k13, t15, x11⟩ ⟨ln12, hd3, hR⟩;replace hd3 : ([⟨#[65]⟩, ⟨#[68]⟩, ⟨#[84]⟩] : List ByteArray).drop k13 = t15 := hd3;replace hR : s1009_l3 (fun z0_ z1_ => s1009_l2 a1 a2 x1 x2 k9 z0_ z1_) a1 x2 x7 x8 t15 k13 x11 = some R := hR;replace ln12 : List.length x11 = 3 := ln12;refine aw_seq ?_;refine aw_region [.p] ?_;refine st rfl rfl (eff_lss rfl rfl rfl) rfl ?_;refine st_nil ?_;refine len_sl (f := cStr) (l := ([⟨#[65]⟩, ⟨#[68]⟩, ⟨#[84]⟩] : List ByteArray)) 93 rfl fun hlz3 => ?_;refine aw_seq ?_;refine aw_cond _ rfl (fun h5 => ?_) (fun h5 => ?_)
       ·replace h5 : (decide (((k13 : Nat) : Int) < (List.length ([⟨#[65]⟩, ⟨#[68]⟩, ⟨#[84]⟩] : List ByteArray) : Int))) = true := h5;obtain ⟨y14, t15, rfl, hx3, hd3⟩ := drop_cons hd3 (decT h5);replace h5 := decT h5;rw [s1009_l3] at hR;(try dsimp only at hR);refine aw_skip ?_;refine aw_seq ?_;refine aw_block ?_;refine aw_seq ?_;refine aw_region [.p, .p, .p, .p, .p] ?_;refine st rfl rfl (eff_moveg rfl rfl) rfl ?_;refine st rfl rfl (eff_ix (f := cStr) (l := ([⟨#[65]⟩, ⟨#[68]⟩, ⟨#[84]⟩] : List ByteArray)) (a := y14) rfl Tryz.underlying104 ty9 rfl rfl (Int.natCast_nonneg _) hx3) rfl ?_;refine st rfl rfl (eff_load rfl ty9 rfl) rfl ?_;refine st rfl rfl (eff_assigng rfl rfl) rfl ?_;refine st rfl rfl (eff_assigng rfl rfl) rfl ?_;refine st_nil ?_;refine aw_seq ?_;refine Exists.elim (bindO_inv hR) (fun r39 hq_ => ?_);have br39 := hq_.1;replace hR := hq_.2;clear hq_;refine aw_region [.p, .p, .p, .p, .p, .p, .p, .p, .p, .p, .p] ?_;refine st rfl rfl (eff_moveg rfl rfl) rfl ?_;refine st rfl rfl (eff_moveg rfl rfl) rfl ?_;refine st rfl rfl (eff_build rfl z1064 rfl pl1064 (pb_cons rfl (pb_cons rfl (pb_cons rfl pb_nil))) rfl) rfl ?_;refine st rfl rfl (eff_moveg rfl rfl) rfl ?_;refine st rfl rfl (eff_moveg rfl rfl) rfl ?_;refine st rfl rfl (eff_call rfl K1039 rfl (c1039 (S1063.mk ByteArray.empty y14 a1 1 0) x2 x8 (fun _ => by first | omega | (simp; omega)) br39) (ag_cons rfl (ag_cons rfl (ag_cons rfl ag_nil)))) rfl ?_;refine st rfl rfl (eff_moveg rfl rfl) rfl ?_;refine st rfl rfl (eff_extract rfl rfl rfl) rfl ?_;refine st rfl rfl (eff_extract rfl rfl rfl) rfl ?_;refine st rfl rfl (eff_assigng rfl rfl) rfl ?_;refine st rfl rfl (eff_assigng rfl rfl) rfl ?_;refine st_nil ?_;refine aw_seq ?_;refine aw_seq ?_;refine aw_region [.p, .p, .p, .p, .p, .p, .p, .p, .p, .p] ?_;refine st rfl rfl (eff_moveg rfl rfl) rfl ?_;refine st rfl rfl (eff_neq rfl rfl rfl) rfl ?_;refine st rfl rfl (eff_moveg rfl rfl) rfl ?_;refine st_g rfl rfl rfl (gb_bool _ _) (fun h => eff_moveg rfl rfl) rfl ?_;refine st_g rfl rfl rfl (gb_bool _ _) (fun h => eff_lss rfl (gd h rfl) rfl) rfl ?_;refine st rfl rfl (eff_or rfl rfl rfl rfl) rfl ?_;refine st rfl rfl (eff_moveg rfl rfl) rfl ?_;refine st_g rfl rfl rfl (gb_bool _ _) (fun h => eff_moveg rfl rfl) rfl ?_;refine st_g rfl rfl rfl (gb_bool _ _) (fun h => eff_gtr rfl (gd h rfl) rfl) rfl ?_;refine st rfl rfl (eff_or rfl rfl rfl rfl) rfl ?_;refine st_nil ?_;refine aw_cond _ rfl (fun h18 => ?_) (fun h18 => ?_)
        ·replace h18 : (((decide (r39.2 ≠ 0)) || (decide (r39.1 < 0))) || (decide (8000 < r39.1))) = true := h18;replace hR := condT hR h18;(try simp only [Bool.or_eq_true, Bool.and_eq_true, Bool.or_eq_false_iff, Bool.and_eq_false_iff, Bool.not_eq_true', Bool.not_eq_false', decide_eq_true_eq, decide_eq_false_iff_not] at h18);refine aw_seq ?_;refine aw_region [.p] ?_;refine st rfl rfl (eff_assigng rfl rfl) rfl ?_;refine st_nil ?_;refine aw_ret ?_;exact res_e (res_c rfl (rv_g rfl)) (congrArg (fun R_ => G.bool R_) (Option.some.inj hR))
        ·replace h18 : (((decide (r39.2 ≠ 0)) || (decide (r39.1 < 0))) || (decide (8000 < r39.1))) = false := h18;replace hR := condF hR h18;(try simp only [Bool.or_eq_true, Bool.and_eq_true, Bool.or_eq_false_iff, Bool.and_eq_false_iff, Bool.not_eq_true', Bool.not_eq_false', decide_eq_true_eq, decide_eq_false_iff_not] at h18);refine aw_skip ?_;refine Exists.elim (bindO_inv hR) (fun y40 hq_ => ?_);have by40 := hq_.1;replace hR := hq_.2;clear hq_;refine aw_region [.p, .p, .p, .w] ?_;refine st rfl rfl (eff_moveg rfl rfl) rfl ?_;refine st rfl rfl (eff_moveg rfl rfl) rfl ?_;refine st rfl rfl (eff_indexV rfl Tryz.underlying103 ty3 rfl rfl (ixO_nn by40) (Nat.lt_of_lt_of_eq (get_lt (ixO_get by40)) ln12)) rfl ?_;refine st_wn rfl rfl (eff_setL (f := cInt) (l := x11) (a' := r39.1) rfl ty3 rfl rfl rfl (Nat.lt_of_lt_of_eq (Nat.lt_of_lt_of_eq (get_lt (ixO_get by40)) ln12) (Eq.symm ln12)) rfl (fun _ => rfl)) ?_;refine st_nil ?_;refine aw_region [.p, .p] ?_;refine st rfl rfl (eff_add rfl rfl rfl (by unfold I64; omega)) rfl ?_;refine st rfl rfl (eff_moveg rfl rfl) rfl ?_;refine st_nil ?_;exact ⟨rfl, (k13 + 1, t15, List.set x11 (Int.toNat ((k13 : Nat) : Int)) r39.1), ⟨rfl, rfl, rfl, rfl, rfl, rfl, rfl, rfl, rfl, rfl, trivial⟩, ⟨rfl, trivial⟩, rfl, ⟨((List.length_set ..).trans ln12), hd3, hR⟩, by simp⟩
       ·replace h5 : (decide (((k13 : Nat) : Int) < (List.length ([⟨#[65]⟩, ⟨#[68]⟩, ⟨#[84]⟩] : List ByteArray) : Int))) = false := h5;obtain rfl := drop_nil hd3 (decF h5);rw [s1009_l3] at hR;refine aw_exit ?_;refine aw_seq ?_;refine aw_seq ?_;refine Exists.elim (bindO_inv hR) (fun y16 hq_ => ?_);have by16 := hq_.1;replace hR := hq_.2;clear hq_;refine Exists.elim (bindO_inv hR) (fun y17 hq_ => ?_);have by17 := hq_.1;replace hR := hq_.2;clear hq_;refine Exists.elim (bindO_inv hR) (fun y18 hq_ => ?_);have by18 := hq_.1;replace hR := hq_.2;clear hq_;refine aw_region [.p, .r, .p, .r, .p, .p, .r, .p] ?_;refine st rfl rfl (eff_indexV rfl Tryz.underlying103 ty3 rfl rfl (ixO_nn by16) (Nat.lt_of_lt_of_eq (get_lt (ixO_get by16)) ln12)) rfl ?_;refine st_r rfl rfl (eff_ldE (f := cInt) (l := x11) (a := y16) rfl ty3 rfl rfl (ixO_get by16) rfl) rfl ?_;refine st rfl rfl (eff_indexV rfl Tryz.underlying103 ty3 rfl rfl (ixO_nn by17) (Nat.lt_of_lt_of_eq (get_lt (ixO_get by17)) ln12)) rfl ?_;refine st_r rfl rfl (eff_ldE (f := cInt) (l := x11) (a := y17) rfl ty3 rfl rfl (ixO_get by17) rfl) rfl ?_;refine st rfl rfl (eff_addw rfl rfl rfl) rfl ?_;refine st rfl rfl (eff_indexV rfl Tryz.underlying103 ty3 rfl rfl (ixO_nn by18) (Nat.lt_of_lt_of_eq (get_lt (ixO_get by18)) ln12)) rfl ?_;refine st_r rfl rfl (eff_ldE (f := cInt) (l := x11) (a := y18) rfl ty3 rfl rfl (ixO_get by18) rfl) rfl ?_;refine st rfl rfl (eff_neq rfl rfl rfl) rfl ?_;refine st_nil ?_;refine aw_cond _ rfl (fun h7 => ?_) (fun h7 => ?_)
        ·replace h7 : (decide (IntKind.i64.wrap (y16 + y17) ≠ y18)) = true := h7;replace hR := condT hR h7;(try simp only [Bool.or_eq_true, Bool.and_eq_true, Bool.or_eq_false_iff, Bool.and_eq_false_iff, Bool.not_eq_true', Bool.not_eq_false', decide_eq_true_eq, decide_eq_false_iff_not] at h7);refine aw_seq ?_;refine aw_region [.p] ?_;refine st rfl rfl (eff_assigng rfl rfl) rfl ?_;refine st_nil ?_;refine aw_ret ?_;exact res_e (res_c rfl (rv_g rfl)) (congrArg (fun R_ => G.bool R_) (Option.some.inj hR))
        ·replace h7 : (decide (IntKind.i64.wrap (y16 + y17) ≠ y18)) = false := h7;replace hR := condF hR h7;(try simp only [Bool.or_eq_true, Bool.and_eq_true, Bool.or_eq_false_iff, Bool.and_eq_false_iff, Bool.not_eq_true', Bool.not_eq_false', decide_eq_true_eq, decide_eq_false_iff_not] at h7);refine aw_skip ?_;refine aw_seq ?_;refine Exists.elim (bindO_inv hR) (fun y19 hq_ => ?_);have by19 := hq_.1;replace hR := hq_.2;clear hq_;refine aw_region [.p, .p, .r, .p, .p] ?_;refine st rfl rfl (eff_moveg rfl rfl) rfl ?_;refine st rfl rfl (eff_indexV rfl Tryz.underlying103 ty3 rfl rfl (ixO_nn by19) (Nat.lt_of_lt_of_eq (get_lt (ixO_get by19)) ln12)) rfl ?_;refine st_r rfl rfl (eff_ldE (f := cInt) (l := x11) (a := y19) rfl ty3 rfl rfl (ixO_get by19) rfl) rfl ?_;refine st rfl rfl (eff_addw rfl rfl rfl) rfl ?_;refine st rfl rfl (eff_assigng rfl rfl) rfl ?_;refine st_nil ?_;refine aw_seq ?_;refine aw_region [.p] ?_;refine st rfl rfl (eff_assigng rfl rfl) rfl ?_;refine st_nil ?_;refine aw_seq ?_;refine aw_seq ?_;refine aw_region [.p, .p, .p] ?_;refine st rfl rfl (eff_moveg rfl rfl) rfl ?_;refine st rfl rfl (eff_lenM (f := S1079.c) (l := x2) rfl Tryz.underlying25 rfl) rfl ?_;refine st rfl rfl (eff_moveg rfl rfl) rfl ?_;refine st_nil ?_;refine aw_block ?_;refine aw_loop_g (γ := Nat × (List S1079) × Int) (fun g => ([(1, .g (G.int a1)), (2, .g (G.int a2)), (7, .g (G.int x1)), (8, .g (G.sl 7 (List.map S1079.c x2))), (11, .g (G.int (IntKind.i64.wrap (x7 + y19)))), (12, .g (G.int x8)), (13, .eptr 13 1 0 0), (18, .g (G.int g.2.2)), (135, .g (G.sl 7 (List.map S1079.c x2))), (136, .g (G.int (List.length x2 : Int))), (137, .g (G.int ((g.1 : Nat) : Int)))], [(13, .arr 103 1 (List.map cInt x11))])) (fun g => x2.drop g.1 = g.2.1 ∧ s1009_l4 (fun z0_ z1_ => s1009_l2 a1 a2 x1 x2 k9 z0_ z1_) a1 x2 x7 x8 x11 y19 g.2.1 g.1 g.2.2 = some R) (fun g => List.length g.2.1) ⟨rfl, (0, x2, 0), ⟨rfl, rfl, rfl, rfl, rfl, rfl, rfl, rfl, rfl, rfl, rfl, trivial⟩, ⟨rfl, trivial⟩, rfl, ⟨rfl, (by exact hR)⟩, trivial⟩ ?_
         ·rintro ⟨k22, t24, x20⟩ ⟨hd4, hR⟩;replace hd4 : x2.drop k22 = t24 := hd4;replace hR : s1009_l4 (fun z0_ z1_ => s1009_l2 a1 a2 x1 x2 k9 z0_ z1_) a1 x2 x7 x8 x11 y19 t24 k22 x20 = some R := hR;refine aw_seq ?_;refine aw_region [.p] ?_;refine st rfl rfl (eff_lss rfl rfl rfl) rfl ?_;refine st_nil ?_;refine len_sl (f := S1079.c) (l := x2) 8 rfl fun hlz4 => ?_;refine aw_seq ?_;refine aw_cond _ rfl (fun h8 => ?_) (fun h8 => ?_)
          ·replace h8 : (decide (((k22 : Nat) : Int) < (List.length x2 : Int))) = true := h8;obtain ⟨y23, t24, rfl, hx4, hd4⟩ := drop_cons hd4 (decT h8);replace h8 := decT h8;rw [s1009_l4] at hR;(try dsimp only at hR);refine aw_skip ?_;refine aw_cut_g (γ := Int) (fun g => ([(1, .g (G.int a1)), (2, .g (G.int a2)), (7, .g (G.int x1)), (8, .g (G.sl 7 (List.map S1079.c x2))), (11, .g (G.int (IntKind.i64.wrap (x7 + y19)))), (12, .g (G.int x8)), (13, .eptr 13 1 0 0), (18, .g (G.int g)), (135, .g (G.sl 7 (List.map S1079.c x2))), (136, .g (G.int (List.length x2 : Int))), (137, .g (G.int ((k22 : Nat) : Int)))], [(13, .arr 103 1 (List.map cInt x11))])) (fun g => s1009_j2 (fun k_ z0_ => s1009_l4 (fun z0_ z1_ => s1009_l2 a1 a2 x1 x2 k9 z0_ z1_) a1 x2 x7 x8 x11 y19 t24 k_ z0_) k22 g = some R) ?_ ?_
           ·refine aw_block ?_;refine aw_seq ?_;refine aw_region [.p, .p, .p, .w, .p, .w] ?_;refine st rfl rfl (eff_moveg rfl rfl) rfl ?_;refine st rfl rfl (eff_ix (f := S1079.c) (l := x2) (a := y23) rfl Tryz.underlying25 ty1080 rfl rfl (Int.natCast_nonneg _) hx4) rfl ?_;refine st rfl rfl (eff_loadA rfl ty1080 rfl rfl rfl) rfl ?_;refine st_w rfl rfl (eff_alloc 20 rfl z1080 rfl rfl) rfl ?_;refine st rfl rfl (eff_assigng rfl rfl) rfl ?_;refine st_wn rfl rfl (eff_store (tv := .g (G.agg [G.int y23.Moment, G.str y23.Kind, G.str y23.Terminal, G.int y23.Seats, G.int y23.Size, G.int y23.Noise, G.str y23.Name])) rfl ty1080 rfl rfl rfl rfl rfl) ?_;refine st_nil ?_;refine aw_seq ?_;refine aw_region [.p, .r, .p, .p] ?_;refine st rfl rfl (eff_fieldO rfl fl1080_2 rfl) rfl ?_;refine st_r rfl rfl (eff_loadO rfl ty9 rfl rfl rfl) rfl ?_;refine st rfl rfl (eff_seq rfl rfl rfl) rfl ?_;refine st rfl rfl (eff_assigng rfl rfl) rfl ?_;refine st_nil ?_;refine aw_seq ?_;refine aw_seq ?_;refine aw_region [.p, .p, .p, .p, .p] ?_;refine st rfl rfl (eff_moveg rfl rfl) rfl ?_;refine st rfl rfl (eff_moveg rfl rfl) rfl ?_;refine st rfl rfl (eff_slG (f := S1079.c) (l := x2) rfl Tryz.underlying25 ty1080 rfl bnd_none (bnd_some rfl (Int.natCast_nonneg _)) (Nat.zero_le _) (le_get hx4)) rfl ?_;refine st rfl rfl (eff_lenM (f := S1079.c) (l := List.take (Int.toNat ((k22 : Nat) : Int)) x2) rfl Tryz.underlying25 rfl) rfl ?_;refine st rfl rfl (eff_moveg rfl rfl) rfl ?_;refine st_nil ?_;refine aw_block ?_;refine aw_loop_g (γ := Nat × (List S1079) × Bool) (fun g => ([(1, .g (G.int a1)), (2, .g (G.int a2)), (7, .g (G.int x1)), (8, .g (G.sl 7 (List.map S1079.c x2))), (11, .g (G.int (IntKind.i64.wrap (x7 + y19)))), (12, .g (G.int x8)), (13, .eptr 13 1 0 0), (18, .g (G.int x20)), (20, .ptr 20 0), (21, .g (G.bool g.2.2)), (135, .g (G.sl 7 (List.map S1079.c x2))), (136, .g (G.int (List.length x2 : Int))), (137, .g (G.int ((k22 : Nat) : Int))), (147, .g (G.sl 7 (List.map S1079.c (List.take (Int.toNat ((k22 : Nat) : Int)) x2)))), (148, .g (G.int (List.length (List.take (Int.toNat ((k22 : Nat) : Int)) x2) : Int))), (149, .g (G.int ((g.1 : Nat) : Int)))], [(13, .arr 103 1 (List.map cInt x11)), (20, .box [.g (G.int y23.Moment), .g (G.str y23.Kind), .g (G.str y23.Terminal), .g (G.int y23.Seats), .g (G.int y23.Size), .g (G.int y23.Noise), .g (G.str y23.Name)])])) (fun g => (List.take (Int.toNat ((k22 : Nat) : Int)) x2).drop g.1 = g.2.1 ∧ s1009_l6 (fun k_ z0_ => s1009_l4 (fun z0_ z1_ => s1009_l2 a1 a2 x1 x2 k9 z0_ z1_) a1 x2 x7 x8 x11 y19 t24 k_ z0_) a1 x2 x8 x20 k22 y23 g.2.1 g.1 g.2.2 = some R) (fun g => List.length g.2.1) ⟨rfl, (0, (List.take (Int.toNat ((k22 : Nat) : Int)) x2), decide (y23.Terminal = (⟨#[]⟩))), ⟨rfl, rfl, rfl, rfl, rfl, rfl, rfl, rfl, rfl, rfl, rfl, rfl, rfl, rfl, rfl, rfl, trivial⟩, ⟨rfl, rfl, trivial⟩, rfl, ⟨rfl, (by exact hR)⟩, trivial⟩ ?_
            ·rintro ⟨k35, t37, x33⟩ ⟨hd6, hR⟩;replace hd6 : (List.take (Int.toNat ((k22 : Nat) : Int)) x2).drop k35 = t37 := hd6;replace hR : s1009_l6 (fun k_ z0_ => s1009_l4 (fun z0_ z1_ => s1009_l2 a1 a2 x1 x2 k9 z0_ z1_) a1 x2 x7 x8 x11 y19 t24 k_ z0_) a1 x2 x8 x20 k22 y23 t37 k35 x33 = some R := hR;refine aw_seq ?_;refine aw_region [.p] ?_;refine st rfl rfl (eff_lss rfl rfl rfl) rfl ?_;refine st_nil ?_;refine len_sl (f := S1079.c) (l := List.take (Int.toNat ((k22 : Nat) : Int)) x2) 147 rfl fun hlz6 => ?_;refine aw_seq ?_;refine aw_cond _ rfl (fun h14 => ?_) (fun h14 => ?_)
             ·replace h14 : (decide (((k35 : Nat) : Int) < (List.length (List.take (Int.toNat ((k22 : Nat) : Int)) x2) : Int))) = true := h14;obtain ⟨y36, t37, rfl, hx6, hd6⟩ := drop_cons hd6 (decT h14);replace h14 := decT h14;rw [s1009_l6] at hR;(try dsimp only at hR);refine aw_skip ?_;refine aw_seq ?_;refine aw_block ?_;refine aw_seq ?_;refine aw_region [.p, .p, .w, .w] ?_;refine st rfl rfl (eff_ix (f := S1079.c) (l := List.take (Int.toNat ((k22 : Nat) : Int)) x2) (a := y36) rfl Tryz.underlying25 ty1080 rfl rfl (Int.natCast_nonneg _) hx6) rfl ?_;refine st rfl rfl (eff_loadA rfl ty1080 rfl rfl rfl) rfl ?_;refine st_w rfl rfl (eff_alloc 23 rfl z1080 rfl rfl) rfl ?_;refine st_wn rfl rfl (eff_store (tv := .g (G.agg [G.int y36.Moment, G.str y36.Kind, G.str y36.Terminal, G.int y36.Seats, G.int y36.Size, G.int y36.Noise, G.str y36.Name])) rfl ty1080 rfl rfl rfl rfl rfl) ?_;refine st_nil ?_;refine aw_region [.p, .p, .p, .r, .p, .r, .p, .p, .p] ?_;refine st rfl rfl (eff_moveg rfl rfl) rfl ?_;refine st rfl rfl (eff_moveg rfl rfl) rfl ?_;refine st_g rfl rfl rfl (gb_bool _ _) (fun h => eff_fieldO rfl fl1080_2 rfl) rfl ?_;refine st_gr rfl rfl rfl (gb_bool _ _) (fun h => eff_loadO rfl ty9 (gd h rfl) rfl rfl) rfl ?_;refine st_g rfl rfl rfl (gb_bool _ _) (fun h => eff_fieldO rfl fl1080_2 rfl) rfl ?_;refine st_gr rfl rfl rfl (gb_bool _ _) (fun h => eff_loadO rfl ty9 (gd h rfl) rfl rfl) rfl ?_;refine st_g rfl rfl rfl (gb_bool _ _) (fun h => eff_seq rfl (gd h rfl) (gd h rfl)) rfl ?_;refine st rfl rfl (eff_or rfl rfl rfl rfl) rfl ?_;refine st rfl rfl (eff_assigng rfl rfl) rfl ?_;refine st_nil ?_;refine aw_region [.p, .p] ?_;refine st rfl rfl (eff_add rfl rfl rfl (by unfold I64; omega)) rfl ?_;refine st rfl rfl (eff_moveg rfl rfl) rfl ?_;refine st_nil ?_;exact ⟨rfl, (k35 + 1, t37, x33 || (decide (y36.Terminal = y23.Terminal))), ⟨rfl, rfl, rfl, rfl, rfl, rfl, rfl, rfl, rfl, rfl, rfl, rfl, rfl, rfl, rfl, rfl, trivial⟩, ⟨rfl, rfl, trivial⟩, rfl, ⟨hd6, hR⟩, by simp⟩
             ·replace h14 : (decide (((k35 : Nat) : Int) < (List.length (List.take (Int.toNat ((k22 : Nat) : Int)) x2) : Int))) = false := h14;obtain rfl := drop_nil hd6 (decF h14);rw [s1009_l6] at hR;refine aw_exit ?_;refine aw_seq ?_;refine aw_seq ?_;refine aw_region [.p] ?_;refine st rfl rfl (eff_moveg rfl rfl) rfl ?_;refine st_nil ?_;refine aw_cond _ rfl (fun h16 => ?_) (fun h16 => ?_)
              ·replace h16 : (x33) = true := h16;replace hR := condT hR h16;(try simp only [Bool.or_eq_true, Bool.and_eq_true, Bool.or_eq_false_iff, Bool.and_eq_false_iff, Bool.not_eq_true', Bool.not_eq_false', decide_eq_true_eq, decide_eq_false_iff_not] at h16);refine aw_exit ?_;exact ⟨rfl, x20, ⟨rfl, rfl, rfl, rfl, rfl, rfl, rfl, rfl, rfl, rfl, rfl, trivial⟩, ⟨rfl, trivial⟩, rfl, hR, trivial⟩
              ·replace h16 : (x33) = false := h16;replace hR := condF hR h16;(try simp only [Bool.or_eq_true, Bool.and_eq_true, Bool.or_eq_false_iff, Bool.and_eq_false_iff, Bool.not_eq_true', Bool.not_eq_false', decide_eq_true_eq, decide_eq_false_iff_not] at h16);refine aw_skip ?_;refine aw_seq ?_;refine Exists.elim (bindO_inv hR) (fun r38 hq_ => ?_);have br38 := hq_.1;replace hR := hq_.2;clear hq_;refine aw_region [.p, .r, .p, .p, .p, .p, .p, .p, .p, .p, .p, .p] ?_;refine st rfl rfl (eff_fieldO rfl fl1080_2 rfl) rfl ?_;refine st_r rfl rfl (eff_loadO rfl ty9 rfl rfl rfl) rfl ?_;refine st rfl rfl (eff_moveg rfl rfl) rfl ?_;refine st rfl rfl (eff_build rfl z1064 rfl pl1064 (pb_cons rfl (pb_cons rfl (pb_cons rfl (pb_cons rfl pb_nil)))) rfl) rfl ?_;refine st rfl rfl (eff_moveg rfl rfl) rfl ?_;refine st rfl rfl (eff_moveg rfl rfl) rfl ?_;refine st rfl rfl (eff_call rfl K1039 rfl (c1039 (S1063.mk y23.Terminal (⟨#[84]⟩) a1 1 0) x2 x8 (fun _ => by first | omega | (simp; omega)) br38) (ag_cons rfl (ag_cons rfl (ag_cons rfl ag_nil)))) rfl ?_;refine st rfl rfl (eff_moveg rfl rfl) rfl ?_;refine st rfl rfl (eff_extract rfl rfl rfl) rfl ?_;refine st rfl rfl (eff_extract rfl rfl rfl) rfl ?_;refine st rfl rfl (eff_assigng rfl rfl) rfl ?_;refine st rfl rfl (eff_assigng rfl rfl) rfl ?_;refine st_nil ?_;refine aw_seq ?_;refine aw_seq ?_;refine aw_region [.p, .p, .p, .p, .p, .p, .p, .p, .p, .p] ?_;refine st rfl rfl (eff_moveg rfl rfl) rfl ?_;refine st rfl rfl (eff_neq rfl rfl rfl) rfl ?_;refine st rfl rfl (eff_moveg rfl rfl) rfl ?_;refine st_g rfl rfl rfl (gb_bool _ _) (fun h => eff_moveg rfl rfl) rfl ?_;refine st_g rfl rfl rfl (gb_bool _ _) (fun h => eff_lss rfl (gd h rfl) rfl) rfl ?_;refine st rfl rfl (eff_or rfl rfl rfl rfl) rfl ?_;refine st rfl rfl (eff_moveg rfl rfl) rfl ?_;refine st_g rfl rfl rfl (gb_bool _ _) (fun h => eff_moveg rfl rfl) rfl ?_;refine st_g rfl rfl rfl (gb_bool _ _) (fun h => eff_gtr rfl (gd h rfl) rfl) rfl ?_;refine st rfl rfl (eff_or rfl rfl rfl rfl) rfl ?_;refine st_nil ?_;refine aw_cond _ rfl (fun h17 => ?_) (fun h17 => ?_)
               ·replace h17 : (((decide (r38.2 ≠ 0)) || (decide (r38.1 < 0))) || (decide (8000 < r38.1))) = true := h17;replace hR := condT hR h17;(try simp only [Bool.or_eq_true, Bool.and_eq_true, Bool.or_eq_false_iff, Bool.and_eq_false_iff, Bool.not_eq_true', Bool.not_eq_false', decide_eq_true_eq, decide_eq_false_iff_not] at h17);refine aw_seq ?_;refine aw_region [.p] ?_;refine st rfl rfl (eff_assigng rfl rfl) rfl ?_;refine st_nil ?_;refine aw_ret ?_;exact res_e (res_c rfl (rv_g rfl)) (congrArg (fun R_ => G.bool R_) (Option.some.inj hR))
               ·replace h17 : (((decide (r38.2 ≠ 0)) || (decide (r38.1 < 0))) || (decide (8000 < r38.1))) = false := h17;replace hR := condF hR h17;(try simp only [Bool.or_eq_true, Bool.and_eq_true, Bool.or_eq_false_iff, Bool.and_eq_false_iff, Bool.not_eq_true', Bool.not_eq_false', decide_eq_true_eq, decide_eq_false_iff_not] at h17);refine aw_skip ?_;refine aw_region [.p, .p, .p, .p] ?_;refine st rfl rfl (eff_moveg rfl rfl) rfl ?_;refine st rfl rfl (eff_moveg rfl rfl) rfl ?_;refine st rfl rfl (eff_addw rfl rfl rfl) rfl ?_;refine st rfl rfl (eff_assigng rfl rfl) rfl ?_;refine st_nil ?_;exact ⟨rfl, IntKind.i64.wrap (x20 + r38.1), ⟨rfl, rfl, rfl, rfl, rfl, rfl, rfl, rfl, rfl, rfl, rfl, trivial⟩, ⟨rfl, trivial⟩, rfl, hR, trivial⟩
           ·rintro x32 hR;replace hR : s1009_j2 (fun k_ z0_ => s1009_l4 (fun z0_ z1_ => s1009_l2 a1 a2 x1 x2 k9 z0_ z1_) a1 x2 x7 x8 x11 y19 t24 k_ z0_) k22 x32 = some R := hR;unfold s1009_j2 at hR;refine aw_region [.p, .p] ?_;refine st rfl rfl (eff_add rfl rfl rfl (by unfold I64; omega)) rfl ?_;refine st rfl rfl (eff_moveg rfl rfl) rfl ?_;refine st_nil ?_;exact ⟨rfl, (k22 + 1, t24, x32), ⟨rfl, rfl, rfl, rfl, rfl, rfl, rfl, rfl, rfl, rfl, rfl, trivial⟩, ⟨rfl, trivial⟩, rfl, ⟨hd4, hR⟩, by simp⟩
          ·replace h8 : (decide (((k22 : Nat) : Int) < (List.length x2 : Int))) = false := h8;obtain rfl := drop_nil hd4 (decF h8);rw [s1009_l4] at hR;refine aw_exit ?_;refine aw_seq ?_;refine aw_seq ?_;refine aw_region [.p, .p, .p] ?_;refine st rfl rfl (eff_moveg rfl rfl) rfl ?_;refine st rfl rfl (eff_lenM (f := S1079.c) (l := x2) rfl Tryz.underlying25 rfl) rfl ?_;refine st rfl rfl (eff_moveg rfl rfl) rfl ?_;refine st_nil ?_;refine aw_block ?_;refine aw_loop_g (γ := Nat × (List S1079) × Int) (fun g => ([(1, .g (G.int a1)), (2, .g (G.int a2)), (7, .g (G.int x1)), (8, .g (G.sl 7 (List.map S1079.c x2))), (11, .g (G.int (IntKind.i64.wrap (x7 + y19)))), (12, .g (G.int x8)), (13, .eptr 13 1 0 0), (18, .g (G.int g.2.2)), (187, .g (G.sl 7 (List.map S1079.c x2))), (188, .g (G.int (List.length x2 : Int))), (189, .g (G.int ((g.1 : Nat) : Int)))], [(13, .arr 103 1 (List.map cInt x11))])) (fun g => x2.drop g.1 = g.2.1 ∧ s1009_l5 (fun z0_ z1_ => s1009_l2 a1 a2 x1 x2 k9 z0_ z1_) a1 x7 x8 x11 y19 g.2.1 g.1 g.2.2 = some R) (fun g => List.length g.2.1) ⟨rfl, (0, x2, x20), ⟨rfl, rfl, rfl, rfl, rfl, rfl, rfl, rfl, rfl, rfl, rfl, trivial⟩, ⟨rfl, trivial⟩, rfl, ⟨rfl, (by exact hR)⟩, trivial⟩ ?_
           ·rintro ⟨k27, t29, x25⟩ ⟨hd5, hR⟩;replace hd5 : x2.drop k27 = t29 := hd5;replace hR : s1009_l5 (fun z0_ z1_ => s1009_l2 a1 a2 x1 x2 k9 z0_ z1_) a1 x7 x8 x11 y19 t29 k27 x25 = some R := hR;refine aw_seq ?_;refine aw_region [.p] ?_;refine st rfl rfl (eff_lss rfl rfl rfl) rfl ?_;refine st_nil ?_;refine len_sl (f := S1079.c) (l := x2) 8 rfl fun hlz5 => ?_;refine aw_seq ?_;refine aw_cond _ rfl (fun h10 => ?_) (fun h10 => ?_)
            ·replace h10 : (decide (((k27 : Nat) : Int) < (List.length x2 : Int))) = true := h10;obtain ⟨y28, t29, rfl, hx5, hd5⟩ := drop_cons hd5 (decT h10);replace h10 := decT h10;rw [s1009_l5] at hR;(try dsimp only at hR);refine aw_skip ?_;refine aw_cut_g (γ := Int) (fun g => ([(1, .g (G.int a1)), (2, .g (G.int a2)), (7, .g (G.int x1)), (8, .g (G.sl 7 (List.map S1079.c x2))), (11, .g (G.int (IntKind.i64.wrap (x7 + y19)))), (12, .g (G.int x8)), (13, .eptr 13 1 0 0), (18, .g (G.int g)), (187, .g (G.sl 7 (List.map S1079.c x2))), (188, .g (G.int (List.length x2 : Int))), (189, .g (G.int ((k27 : Nat) : Int)))], [(13, .arr 103 1 (List.map cInt x11))])) (fun g => s1009_j1 (fun k_ z0_ => s1009_l5 (fun z0_ z1_ => s1009_l2 a1 a2 x1 x2 k9 z0_ z1_) a1 x7 x8 x11 y19 t29 k_ z0_) k27 g = some R) ?_ ?_
             ·refine aw_block ?_;refine aw_seq ?_;refine aw_region [.p, .p, .w, .w] ?_;refine st rfl rfl (eff_ix (f := S1079.c) (l := x2) (a := y28) rfl Tryz.underlying25 ty1080 rfl rfl (Int.natCast_nonneg _) hx5) rfl ?_;refine st rfl rfl (eff_loadA rfl ty1080 rfl rfl rfl) rfl ?_;refine st_w rfl rfl (eff_alloc 27 rfl z1080 rfl rfl) rfl ?_;refine st_wn rfl rfl (eff_store (tv := .g (G.agg [G.int y28.Moment, G.str y28.Kind, G.str y28.Terminal, G.int y28.Seats, G.int y28.Size, G.int y28.Noise, G.str y28.Name])) rfl ty1080 rfl rfl rfl rfl rfl) ?_;refine st_nil ?_;refine aw_seq ?_;refine aw_region [.p, .r, .p, .p, .p, .r, .p, .p, .p, .p, .p, .r, .p, .p, .p, .p, .p] ?_;refine st rfl rfl (eff_fieldO rfl fl1080_2 rfl) rfl ?_;refine st_r rfl rfl (eff_loadO rfl ty9 rfl rfl rfl) rfl ?_;refine st rfl rfl (eff_seq rfl rfl rfl) rfl ?_;refine st rfl rfl (eff_moveg rfl rfl) rfl ?_;refine st_g rfl rfl rfl (gb_bool _ _) (fun h => eff_fieldO rfl fl1080_0 rfl) rfl ?_;refine st_gr rfl rfl rfl (gb_bool _ _) (fun h => eff_loadO rfl ty3 (gd h rfl) rfl rfl) rfl ?_;refine st_g rfl rfl rfl (gb_bool _ _) (fun h => eff_moveg rfl rfl) rfl ?_;refine st_g rfl rfl rfl (gb_bool _ _) (fun h => eff_geq rfl (gd h rfl) (gd h rfl)) rfl ?_;refine st rfl rfl (eff_and rfl rfl rfl rfl) rfl ?_;refine st rfl rfl (eff_moveg rfl rfl) rfl ?_;refine st_g rfl rfl rfl (gb_bool _ _) (fun h => eff_fieldO rfl fl1080_0 rfl) rfl ?_;refine st_gr rfl rfl rfl (gb_bool _ _) (fun h => eff_loadO rfl ty3 (gd h rfl) rfl rfl) rfl ?_;refine st_g rfl rfl rfl (gb_bool _ _) (fun h => eff_moveg rfl rfl) rfl ?_;refine st_g rfl rfl rfl (gb_bool _ _) (fun h => eff_moveg rfl rfl) rfl ?_;refine st_g rfl rfl rfl (gb_bool _ _) (fun h => eff_add rfl (gd h rfl) (gd h rfl) (by unfold I64; (try dsimp only); omega)) rfl ?_;refine st_g rfl rfl rfl (gb_bool _ _) (fun h => eff_lss rfl (gd h rfl) (gd h rfl)) rfl ?_;refine st rfl rfl (eff_and rfl rfl rfl rfl) rfl ?_;refine st_nil ?_;refine aw_cond _ rfl (fun h13 => ?_) (fun h13 => ?_)
              ·replace h13 : (((decide (y28.Terminal = (⟨#[]⟩))) && (decide (x8 ≤ y28.Moment))) && (decide (y28.Moment < x8 + a1))) = true := h13;replace hR := condT hR h13;(try simp only [Bool.or_eq_true, Bool.and_eq_true, Bool.or_eq_false_iff, Bool.and_eq_false_iff, Bool.not_eq_true', Bool.not_eq_false', decide_eq_true_eq, decide_eq_false_iff_not] at h13);refine aw_region [.p, .p, .r, .p, .p] ?_;refine st rfl rfl (eff_moveg rfl rfl) rfl ?_;refine st rfl rfl (eff_fieldO rfl fl1080_3 rfl) rfl ?_;refine st_r rfl rfl (eff_loadO rfl ty3 rfl rfl rfl) rfl ?_;refine st rfl rfl (eff_addw rfl rfl rfl) rfl ?_;refine st rfl rfl (eff_assigng rfl rfl) rfl ?_;refine st_nil ?_;exact ⟨rfl, IntKind.i64.wrap (x25 + y28.Seats), ⟨rfl, rfl, rfl, rfl, rfl, rfl, rfl, rfl, rfl, rfl, rfl, trivial⟩, ⟨rfl, trivial⟩, rfl, hR, trivial⟩
              ·replace h13 : (((decide (y28.Terminal = (⟨#[]⟩))) && (decide (x8 ≤ y28.Moment))) && (decide (y28.Moment < x8 + a1))) = false := h13;replace hR := condF hR h13;(try simp only [Bool.or_eq_true, Bool.and_eq_true, Bool.or_eq_false_iff, Bool.and_eq_false_iff, Bool.not_eq_true', Bool.not_eq_false', decide_eq_true_eq, decide_eq_false_iff_not] at h13);refine aw_skip ?_;exact ⟨rfl, x25, ⟨rfl, rfl, rfl, rfl, rfl, rfl, rfl, rfl, rfl, rfl, rfl, trivial⟩, ⟨rfl, trivial⟩, rfl, hR, trivial⟩
             ·rintro x31 hR;replace hR : s1009_j1 (fun k_ z0_ => s1009_l5 (fun z0_ z1_ => s1009_l2 a1 a2 x1 x2 k9 z0_ z1_) a1 x7 x8 x11 y19 t29 k_ z0_) k27 x31 = some R := hR;unfold s1009_j1 at hR;refine aw_region [.p, .p] ?_;refine st rfl rfl (eff_add rfl rfl rfl (by unfold I64; omega)) rfl ?_;refine st rfl rfl (eff_moveg rfl rfl) rfl ?_;refine st_nil ?_;exact ⟨rfl, (k27 + 1, t29, x31), ⟨rfl, rfl, rfl, rfl, rfl, rfl, rfl, rfl, rfl, rfl, rfl, trivial⟩, ⟨rfl, trivial⟩, rfl, ⟨hd5, hR⟩, by simp⟩
            ·replace h10 : (decide (((k27 : Nat) : Int) < (List.length x2 : Int))) = false := h10;obtain rfl := drop_nil hd5 (decF h10);rw [s1009_l5] at hR;refine aw_exit ?_;refine aw_seq ?_;refine Exists.elim (bindO_inv hR) (fun y30 hq_ => ?_);have by30 := hq_.1;replace hR := hq_.2;clear hq_;refine aw_region [.p, .p, .r, .p] ?_;refine st rfl rfl (eff_moveg rfl rfl) rfl ?_;refine st rfl rfl (eff_indexV rfl Tryz.underlying103 ty3 rfl rfl (ixO_nn by30) (Nat.lt_of_lt_of_eq (get_lt (ixO_get by30)) ln12)) rfl ?_;refine st_r rfl rfl (eff_ldE (f := cInt) (l := x11) (a := y30) rfl ty3 rfl rfl (ixO_get by30) rfl) rfl ?_;refine st rfl rfl (eff_neq rfl rfl rfl) rfl ?_;refine st_nil ?_;refine aw_cond _ rfl (fun h12 => ?_) (fun h12 => ?_)
             ·replace h12 : (decide (x25 ≠ y30)) = true := h12;replace hR := condT hR h12;(try simp only [Bool.or_eq_true, Bool.and_eq_true, Bool.or_eq_false_iff, Bool.and_eq_false_iff, Bool.not_eq_true', Bool.not_eq_false', decide_eq_true_eq, decide_eq_false_iff_not] at h12);refine aw_seq ?_;refine aw_region [.p] ?_;refine st rfl rfl (eff_assigng rfl rfl) rfl ?_;refine st_nil ?_;refine aw_ret ?_;exact res_e (res_c rfl (rv_g rfl)) (congrArg (fun R_ => G.bool R_) (Option.some.inj hR))
             ·replace h12 : (decide (x25 ≠ y30)) = false := h12;replace hR := condF hR h12;(try simp only [Bool.or_eq_true, Bool.and_eq_true, Bool.or_eq_false_iff, Bool.and_eq_false_iff, Bool.not_eq_true', Bool.not_eq_false', decide_eq_true_eq, decide_eq_false_iff_not] at h12);refine aw_skip ?_;refine aw_region [.p, .p, .p, .p] ?_;refine st rfl rfl (eff_moveg rfl rfl) rfl ?_;refine st rfl rfl (eff_moveg rfl rfl) rfl ?_;refine st rfl rfl (eff_add rfl rfl rfl (by unfold I64; (try dsimp only); omega)) rfl ?_;refine st rfl rfl (eff_assigng rfl rfl) rfl ?_;refine st_nil ?_;exact ⟨rfl, (k9, IntKind.i64.wrap (x7 + y19), x8 + a1), ⟨rfl, rfl, rfl, rfl, rfl, rfl, trivial⟩, trivial, rfl, ⟨(by first | omega | (dsimp only; omega) | (simp at *; omega)), (by first | omega | (dsimp only; omega) | (simp at *; omega)), (by first | omega | (dsimp only; omega) | (simp at *; omega)), hR⟩, by simp⟩
     ·replace h4 : (decide (x8 < (1440 * a2) + 4320)) = false := h4;replace hR := condF hR h4;(try simp only [Bool.or_eq_true, Bool.and_eq_true, Bool.or_eq_false_iff, Bool.and_eq_false_iff, Bool.not_eq_true', Bool.not_eq_false', decide_eq_true_eq, decide_eq_false_iff_not] at h4);refine aw_exit ?_;refine aw_seq ?_;refine Exists.elim (bindO_inv hR) (fun r41 hq_ => ?_);have br41 := hq_.1;replace hR := hq_.2;clear hq_;refine aw_region [.p, .p, .p, .p, .p, .p, .p, .p, .p, .p, .w, .w, .p] ?_;refine st rfl rfl (eff_moveg rfl rfl) rfl ?_;refine st rfl rfl (eff_moveg rfl rfl) rfl ?_;refine st rfl rfl (eff_moveg rfl rfl) rfl ?_;refine st rfl rfl (eff_build rfl z1064 rfl pl1064 (pb_cons rfl (pb_cons rfl (pb_cons rfl (pb_cons rfl pb_nil)))) rfl) rfl ?_;refine st rfl rfl (eff_buildSlice rfl Tryz.underlying24 ty1064 z1064 rfl (ps_cons rfl ps_nil) rfl (by exact lens rfl) (by decide)) rfl ?_;refine st rfl rfl (eff_moveg rfl rfl) rfl ?_;refine st rfl rfl (eff_call rfl K1043 rfl (c1043 ([(S1063.mk ByteArray.empty (⟨#[84]⟩) a1 a1 x1)] : List S1063) x2 (fun _ => by first | omega | (simp; omega)) br41) (ag_cons rfl (ag_cons rfl ag_nil))) rfl ?_;refine st rfl rfl (eff_moveg rfl rfl) rfl ?_;refine st rfl rfl (eff_extract rfl rfl rfl) rfl ?_;refine st rfl rfl (eff_extract rfl rfl rfl) rfl ?_;refine st_w rfl rfl (eff_alloc 28 rfl z1072 rfl rfl) rfl ?_;refine st_wn rfl rfl (eff_store (tv := .g (G.agg [G.int r41.1.Limit, G.int r41.1.Moment, G.int r41.1.Seats])) rfl ty1072 rfl rfl rfl rfl rfl) ?_;refine st rfl rfl (eff_assigng rfl rfl) rfl ?_;refine st_nil ?_;refine aw_seq ?_;refine aw_region [.p, .p, .p, .p, .p, .p, .p, .p] ?_;refine st rfl rfl (eff_moveg rfl rfl) rfl ?_;refine st rfl rfl (eff_moveg rfl rfl) rfl ?_;refine st rfl rfl (eff_eql rfl rfl rfl) rfl ?_;refine st rfl rfl (eff_moveg rfl rfl) rfl ?_;refine st_g rfl rfl rfl (gb_bool _ _) (fun h => eff_moveg rfl rfl) rfl ?_;refine st_g rfl rfl rfl (gb_bool _ _) (fun h => eff_eql rfl (gd h rfl) rfl) rfl ?_;refine st rfl rfl (eff_and rfl rfl rfl rfl) rfl ?_;refine st rfl rfl (eff_assigng rfl rfl) rfl ?_;refine st_nil ?_;refine aw_ret ?_;exact res_e (res_c rfl (rv_g rfl)) (congrArg (fun R_ => G.bool R_) (Option.some.inj hR))
end Go.Sim
