/-
  What is proved: lemmas and contracts of functions on the way to the law groundClashes (part 10).
-/
import Derived.Test.YthhidpjikbhljaaGreatDoorVrA9
import Derived.Test.YthhidpjikbhljaaGreatDoorVrA8
import Derived.Test.YthhidpjikbhljaaGreatDoorVrA5
import Derived.Test.YthhidpjikbhljaaGreatDoorVrA7
import Derived.Test.YthhidpjikbhljaaGreatDoorVrA2
import Derived.RangeFuncBox
import Derived.RangeFuncNested
import Derived.RangeFuncBound
import Derived.RangeFuncCalls
import Derived.RangeFuncLeaves
import Derived.Shelf.Abstract
import Derived.Shelf.RegionOpen
import Derived.WalkKit
import Derived.OwnWalkIn
import Derived.TacticsInMore
import Derived.LoopNIn
import Derived.LoopIn
import Derived.Lib.Hide
set_option linter.unusedSectionVars false
set_option linter.unusedSimpArgs false
set_option linter.unusedVariables false
set_option linter.unnecessarySimpa false
set_option linter.deprecated false
namespace Go.Ex
open Go.Proofs
def isInt (n : Int) : Re (V × H × Nat) → Bool
 | .ok (.lit (.int .i64 m), _, _) => m == n
 | _ => false
theorem isInt_ex {n : Int} {r : Re (V × H × Nat)} (h : isInt n r = true) : ∃ h' c', r = .ok (.lit (.int .i64 n), h', c') := by
 unfold isInt at h
 split at h
 ·rename_i m h' c'; exact ⟨h', c', by rw [of_decide_eq_true (by simpa using h) |> fun (e : m = n) => e]⟩
 ·cases h
def lenT (n : Int) : Int := bif decide (n ≤ 0) then 0 else bif decide (n ≤ 1) then 1 else bif decide (n ≤ 3) then 2 else bif decide (n ≤ 7) then 3 else 4
theorem r182_0 : isInt 0 (call Tryz.prog gl (fun _ _ _ _ _ => none) 40 (.fn 164) [.lit (.int .u64 0)] h0 1000 1000) = true := by kernel_rfl
theorem k182_0 : Sim.Con (Sim.EG Sim.glT) 164 [Sim.G.lit (.int .u64 0)] (Sim.G.int 0) := by
 obtain ⟨h', c', h⟩ := isInt_ex r182_0;exact con_of_call (vs := [.int .u64 0]) orc_none orcK_none (by decide) (gl_ok (by decide)) h
theorem r182_1 : isInt 1 (call Tryz.prog gl (fun _ _ _ _ _ => none) 40 (.fn 164) [.lit (.int .u64 1)] h0 1000 1000) = true := by kernel_rfl
theorem k182_1 : Sim.Con (Sim.EG Sim.glT) 164 [Sim.G.lit (.int .u64 1)] (Sim.G.int 1) := by
 obtain ⟨h', c', h⟩ := isInt_ex r182_1;exact con_of_call (vs := [.int .u64 1]) orc_none orcK_none (by decide) (gl_ok (by decide)) h
theorem r182_2 : isInt 2 (call Tryz.prog gl (fun _ _ _ _ _ => none) 40 (.fn 164) [.lit (.int .u64 2)] h0 1000 1000) = true := by kernel_rfl
theorem k182_2 : Sim.Con (Sim.EG Sim.glT) 164 [Sim.G.lit (.int .u64 2)] (Sim.G.int 2) := by
 obtain ⟨h', c', h⟩ := isInt_ex r182_2;exact con_of_call (vs := [.int .u64 2]) orc_none orcK_none (by decide) (gl_ok (by decide)) h
theorem r182_3 : isInt 2 (call Tryz.prog gl (fun _ _ _ _ _ => none) 40 (.fn 164) [.lit (.int .u64 3)] h0 1000 1000) = true := by kernel_rfl
theorem k182_3 : Sim.Con (Sim.EG Sim.glT) 164 [Sim.G.lit (.int .u64 3)] (Sim.G.int 2) := by
 obtain ⟨h', c', h⟩ := isInt_ex r182_3;exact con_of_call (vs := [.int .u64 3]) orc_none orcK_none (by decide) (gl_ok (by decide)) h
theorem r182_4 : isInt 3 (call Tryz.prog gl (fun _ _ _ _ _ => none) 40 (.fn 164) [.lit (.int .u64 4)] h0 1000 1000) = true := by kernel_rfl
theorem k182_4 : Sim.Con (Sim.EG Sim.glT) 164 [Sim.G.lit (.int .u64 4)] (Sim.G.int 3) := by
 obtain ⟨h', c', h⟩ := isInt_ex r182_4;exact con_of_call (vs := [.int .u64 4]) orc_none orcK_none (by decide) (gl_ok (by decide)) h
theorem r182_5 : isInt 3 (call Tryz.prog gl (fun _ _ _ _ _ => none) 40 (.fn 164) [.lit (.int .u64 5)] h0 1000 1000) = true := by kernel_rfl
theorem k182_5 : Sim.Con (Sim.EG Sim.glT) 164 [Sim.G.lit (.int .u64 5)] (Sim.G.int 3) := by
 obtain ⟨h', c', h⟩ := isInt_ex r182_5;exact con_of_call (vs := [.int .u64 5]) orc_none orcK_none (by decide) (gl_ok (by decide)) h
theorem r182_6 : isInt 3 (call Tryz.prog gl (fun _ _ _ _ _ => none) 40 (.fn 164) [.lit (.int .u64 6)] h0 1000 1000) = true := by kernel_rfl
theorem k182_6 : Sim.Con (Sim.EG Sim.glT) 164 [Sim.G.lit (.int .u64 6)] (Sim.G.int 3) := by
 obtain ⟨h', c', h⟩ := isInt_ex r182_6;exact con_of_call (vs := [.int .u64 6]) orc_none orcK_none (by decide) (gl_ok (by decide)) h
theorem r182_7 : isInt 3 (call Tryz.prog gl (fun _ _ _ _ _ => none) 40 (.fn 164) [.lit (.int .u64 7)] h0 1000 1000) = true := by kernel_rfl
theorem k182_7 : Sim.Con (Sim.EG Sim.glT) 164 [Sim.G.lit (.int .u64 7)] (Sim.G.int 3) := by
 obtain ⟨h', c', h⟩ := isInt_ex r182_7;exact con_of_call (vs := [.int .u64 7]) orc_none orcK_none (by decide) (gl_ok (by decide)) h
theorem r182_8 : isInt 4 (call Tryz.prog gl (fun _ _ _ _ _ => none) 40 (.fn 164) [.lit (.int .u64 8)] h0 1000 1000) = true := by kernel_rfl
theorem k182_8 : Sim.Con (Sim.EG Sim.glT) 164 [Sim.G.lit (.int .u64 8)] (Sim.G.int 4) := by
 obtain ⟨h', c', h⟩ := isInt_ex r182_8;exact con_of_call (vs := [.int .u64 8]) orc_none orcK_none (by decide) (gl_ok (by decide)) h
theorem r182_9 : isInt 4 (call Tryz.prog gl (fun _ _ _ _ _ => none) 40 (.fn 164) [.lit (.int .u64 9)] h0 1000 1000) = true := by kernel_rfl
theorem k182_9 : Sim.Con (Sim.EG Sim.glT) 164 [Sim.G.lit (.int .u64 9)] (Sim.G.int 4) := by
 obtain ⟨h', c', h⟩ := isInt_ex r182_9;exact con_of_call (vs := [.int .u64 9]) orc_none orcK_none (by decide) (gl_ok (by decide)) h
theorem r182_10 : isInt 4 (call Tryz.prog gl (fun _ _ _ _ _ => none) 40 (.fn 164) [.lit (.int .u64 10)] h0 1000 1000) = true := by kernel_rfl
theorem k182_10 : Sim.Con (Sim.EG Sim.glT) 164 [Sim.G.lit (.int .u64 10)] (Sim.G.int 4) := by
 obtain ⟨h', c', h⟩ := isInt_ex r182_10;exact con_of_call (vs := [.int .u64 10]) orc_none orcK_none (by decide) (gl_ok (by decide)) h
theorem r182_11 : isInt 4 (call Tryz.prog gl (fun _ _ _ _ _ => none) 40 (.fn 164) [.lit (.int .u64 11)] h0 1000 1000) = true := by kernel_rfl
theorem k182_11 : Sim.Con (Sim.EG Sim.glT) 164 [Sim.G.lit (.int .u64 11)] (Sim.G.int 4) := by
 obtain ⟨h', c', h⟩ := isInt_ex r182_11;exact con_of_call (vs := [.int .u64 11]) orc_none orcK_none (by decide) (gl_ok (by decide)) h
theorem r182_12 : isInt 4 (call Tryz.prog gl (fun _ _ _ _ _ => none) 40 (.fn 164) [.lit (.int .u64 12)] h0 1000 1000) = true := by kernel_rfl
theorem k182_12 : Sim.Con (Sim.EG Sim.glT) 164 [Sim.G.lit (.int .u64 12)] (Sim.G.int 4) := by
 obtain ⟨h', c', h⟩ := isInt_ex r182_12;exact con_of_call (vs := [.int .u64 12]) orc_none orcK_none (by decide) (gl_ok (by decide)) h
end Go.Ex
namespace Go.Sim
open Go.Proofs Go.Ex
def lenU (n : Int) : Int := lenT n
theorem c182 (n : Int) (h : 0 ≤ n ∧ n ≤ 12) : Con (EG glT) 164 [G.lit (.int .u64 n)] (G.int (lenU n)) := by
 have : n = 0 ∨ n = 1 ∨ n = 2 ∨ n = 3 ∨ n = 4 ∨ n = 5 ∨ n = 6 ∨ n = 7 ∨ n = 8 ∨ n = 9 ∨ n = 10 ∨ n = 11 ∨ n = 12 := by omega
 rcases this with rfl | rfl | rfl | rfl | rfl | rfl | rfl | rfl | rfl | rfl | rfl | rfl | rfl
 ·exact k182_0
 ·exact k182_1
 ·exact k182_2
 ·exact k182_3
 ·exact k182_4
 ·exact k182_5
 ·exact k182_6
 ·exact k182_7
 ·exact k182_8
 ·exact k182_9
 ·exact k182_10
 ·exact k182_11
 ·exact k182_12
theorem c182w (n : Int) (h : 0 ≤ n ∧ n ≤ 12) : Con (EG glT) 164 [G.lit (.int .u64 (IntKind.u64.wrap n))] (G.int (lenU n)) := by
 have : IntKind.u64.wrap n = n := by
  have : n = 0 ∨ n = 1 ∨ n = 2 ∨ n = 3 ∨ n = 4 ∨ n = 5 ∨ n = 6 ∨ n = 7 ∨ n = 8 ∨ n = 9 ∨ n = 10 ∨ n = 11 ∨ n = 12 := by omega
  rcases this with rfl | rfl | rfl | rfl | rfl | rfl | rfl | rfl | rfl | rfl | rfl | rfl | rfl <;> decide
 rw [this]; exact c182 n h
end Go.Sim
set_option maxRecDepth 10000
namespace Go.Sim
open Go.Proofs
def s1160 (a0 : List Int) : Option (List Int) :=
 bindO (s1176 a0 0 (List.length a0 : Int) (lenU (List.length a0 : Int))) fun r1 => some r1
theorem c1160 (a0 : List Int) {R : List Int} {N0 : Nat} (hN0 : List.length a0 = N0) (hB : (List.length a0 : Int) ≤ 12) (hR : s1160 a0 = some R) : ConB (EG glT) 160 [.osl 0 1 0 N0] [(0, .arr 3 1 (List.map cInt a0))] (G.tup []) [(0, .arr 3 1 (List.map cInt R))] := by
 unfold s1160 at hR;refine conB_of_aw Tryz.func160 rfl rfl rfl fun w0 M0 x => ?_;refine len_osl (f := cInt) (l := a0) 0 rfl fun hla0 => ?_;refine aw_seq ?_;refine aw_region [.p, .p, .p] ?_;refine st rfl rfl (eff_moveO rfl rfl) rfl ?_;refine st rfl rfl (eff_lenON hN0 rfl Tryz.underlying51 rfl) rfl ?_;refine st rfl rfl (eff_assigng rfl rfl) rfl ?_;refine st_nil ?_;obtain ⟨r1, br1, hR⟩ := bindO_inv hR;refine aw_region [.p, .p, .p, .p, .p, .w] ?_;refine st rfl rfl (eff_moveO rfl rfl) rfl ?_;refine st rfl rfl (eff_moveg rfl rfl) rfl ?_;refine st rfl rfl (eff_moveg rfl rfl) rfl ?_;refine st rfl rfl (eff_conv rfl Tryz.underlying3 Tryz.underlying225 rfl) rfl ?_;refine st rfl rfl (eff_call rfl K182 rfl (Con.lend (c182w (List.length a0 : Int) (by omega))) (ag_cons rfl ag_nil)) rfl ?_;refine st_w rfl rfl (eff_callB1 0 0 rfl K1176 rfl (ConB.lend (c1176 a0 0 (List.length a0 : Int) (lenU (List.length a0 : Int)) hN0 (by first | assumption | omega | (simp [copyL_len]; done) | (simp [copyL_len]; omega)) (by first | assumption | omega | (simp [copyL_len]; done) | (simp [copyL_len]; omega)) (by first | assumption | omega | (simp [copyL_len]; done) | (simp [copyL_len]; omega)) (by first | assumption | omega | (simp [copyL_len]; done) | (simp [copyL_len]; omega)) br1)) (at_cons rfl rfl (at_cons rfl rfl (at_cons rfl rfl (at_cons rfl rfl at_nil)))) rfl rfl rfl) rfl ?_;refine st_nil ?_;obtain rfl := Option.some.inj hR;show ResOk _ _ _ _ ∧ MemL _ _;exact ⟨res0 rfl, ⟨rfl, trivial⟩⟩
theorem len1160 {a0 : List Int} {R : List Int} (h : s1160 a0 = some R) : R.length = a0.length := by
 unfold s1160 at h;obtain ⟨y1, h1, h⟩ := bindO_inv h
 cases h
 exact len1176 h1
section
variable {α : Type}
def insB (lt : α → α → Bool) (x : α) : List α → List α
 | [] => [x]
 | y :: r => bif lt x y then y :: insB lt x r else x :: y :: r
def insS (lt : α → α → Bool) : List α → List α → List α
 | P, [] => P.reverse
 | P, x :: l => insS lt (insB lt x P) l
def isort (lt : α → α → Bool) (l : List α) : List α := insS lt [] l
theorem insB_perm (lt : α → α → Bool) (x : α) : ∀ P, (insB lt x P).Perm (x :: P)
 | [] => List.Perm.refl _
 | y :: r => by
  rw [insB]
  cases lt x y with
  | true => exact ((insB_perm lt x r).cons y).trans (List.Perm.swap x y r)
  | false => exact List.Perm.refl _
theorem insB_len (lt : α → α → Bool) (x : α) (P : List α) : (insB lt x P).length = P.length + 1 := (insB_perm lt x P).length_eq
theorem insS_perm (lt : α → α → Bool) : ∀ (l P : List α), (insS lt P l).Perm (P ++ l)
 | [], P => by rw [insS, List.append_nil]; exact List.reverse_perm P
 | x :: l, P => by
  rw [insS];refine (insS_perm lt l _).trans ?_;refine ((insB_perm lt x P).append_right l).trans ?_;exact List.perm_middle.symm
theorem isort_perm (lt : α → α → Bool) (l : List α) : (isort lt l).Perm l := insS_perm lt l []
theorem insB_sorted {lt : α → α → Bool} {Rel : α → α → Prop} (tr : ∀ a b c, Rel a b → Rel b c → Rel a c) {x : α} : ∀ {P : List α}, P.Pairwise (fun a b => Rel b a) → (∀ y ∈ P, (lt x y = true → Rel x y) ∧ (lt x y = false → Rel y x)) → (insB lt x P).Pairwise (fun a b => Rel b a)
 | [], _, _ => by rw [insB]; exact List.pairwise_singleton _ _
 | y :: r, hP, hx => by
  rw [insB];have h1 := List.pairwise_cons.1 hP
  cases hl : lt x y with
  | true =>
   refine List.pairwise_cons.2 ⟨fun z hz => ?_, insB_sorted tr h1.2 fun y hy => hx y (List.mem_cons_of_mem _ hy)⟩
   rcases List.mem_cons.1 ((insB_perm lt x r).mem_iff.1 hz) with rfl | hz
   ·exact (hx y List.mem_cons_self).1 hl
   ·exact h1.1 z hz
  | false =>
   refine List.pairwise_cons.2 ⟨fun z hz => ?_, hP⟩;have h2 := (hx y List.mem_cons_self).2 hl
   rcases List.mem_cons.1 hz with rfl | hz
   ·exact h2
   ·exact tr z y x (h1.1 z hz) h2
theorem insS_sorted {lt : α → α → Bool} {Rel : α → α → Prop} (tr : ∀ a b c, Rel a b → Rel b c → Rel a c) : ∀ {l P : List α}, P.Pairwise (fun a b => Rel b a) → (∀ y ∈ P, ∀ x ∈ l, (lt x y = true → Rel x y) ∧ (lt x y = false → Rel y x)) →
  l.Pairwise (fun y x => (lt x y = true → Rel x y) ∧ (lt x y = false → Rel y x)) → (insS lt P l).Pairwise Rel
 | [], P, hP, _, _ => by rw [insS]; exact List.pairwise_reverse.2 hP
 | x :: l, P, hP, hx, hl => by
  rw [insS];have h1 := List.pairwise_cons.1 hl;refine insS_sorted tr (insB_sorted tr hP fun y hy => hx y hy x List.mem_cons_self) (fun y hy z hz => ?_) h1.2
  rcases List.mem_cons.1 ((insB_perm lt x P).mem_iff.1 hy) with rfl | hy
  ·exact h1.1 z hz
  ·exact hx y hy z (List.mem_cons_of_mem _ hz)
theorem isort_sorted {lt : α → α → Bool} {Rel : α → α → Prop} (tr : ∀ a b c, Rel a b → Rel b c → Rel a c) {l : List α} (hl : l.Pairwise (fun y x => (lt x y = true → Rel x y) ∧ (lt x y = false → Rel y x))) : (isort lt l).Pairwise Rel :=
 insS_sorted tr List.Pairwise.nil (fun y hy => by cases hy) hl
theorem ixO_app {P B : List α} {x : α} : ixO (P ++ x :: B) (P.length : Int) = some x := by
 unfold ixO;rw [decide_eq_true (by omega)]
 simp
theorem ixO_app' {P B : List α} {x : α} {n : Int} (h : n = (P.length : Int)) : ixO (P ++ x :: B) n = some x := by rw [h]; exact ixO_app
theorem set_app {P B : List α} {x y : α} {n : Nat} (h : n = P.length) : List.set (P ++ x :: B) n y = P ++ y :: B := by
 subst h;rw [List.set_append_right _ _ (Nat.le_refl _), Nat.sub_self, List.set_cons_zero]
end
theorem f89_k : ∀ (l : List Int) (k k' : Nat), s89_l1 l k = s89_l1 l k'
 | [], _, _ => rfl
 | x :: l, k, k' => by simp only [s89_l1]; rw [f89_k l (k + 1) (k' + 1)]
theorem s89_nil : s89 [] = 0 := rfl
theorem s89_cons (x : Int) (l : List Int) : s89 (x :: l) = if x = 0 then s89 l else x := by
 unfold s89;simp only [s89_l1];rw [f89_k l (0 + 1) 0]
 by_cases h : x = 0 <;> simp [h]
theorem f1085_k : ∀ (l : List Int) (k : Nat), s1085_l1 l k = s89_l1 l k
 | [], _ => rfl
 | x :: l, k => by simp only [s1085_l1, s89_l1]; rw [f1085_k l (k + 1)]
theorem s1085_eq (l : List Int) : s1085 l = s89 l := f1085_k l 0
theorem s1088_eq (a b c : Int) : s1088 a b c = s90 a b c := rfl
theorem s1098_eq (a : Int) : s1098 a = s96 a := rfl
theorem s90_ite (a b c : Int) : s90 a b c = if b ≤ a ∧ a ≤ c then 0 else 3 := by
 unfold s90
 by_cases h1 : a < b <;> by_cases h2 : c < a <;> simp [h1, h2] <;> omega
theorem s1086_ite (b : Bool) (e : Int) : s1086 b e = if b = true then e else 0 := by cases b <;> rfl
theorem decode_lo {s : ByteArray} {i : Nat} (h : (s.get! i).toNat < 128) : Utf8.decode s i = ((s.get! i).toNat, 1) := by
 unfold Utf8.decode
 simp [h]
theorem decode_hi {s : ByteArray} {i : Nat} (h : 128 ≤ (s.get! i).toNat) : 128 ≤ (Utf8.decode s i).1 := by
 unfold Utf8.decode;simp only [Nat.add_zero];rw [if_neg (by omega)]
 repeat' split
 all_goals first | assumption | (simp [Utf8.runeError]; done) | (rename_i h2; simp only [Bool.and_eq_true, decide_eq_true_eq] at h2; have h3 := h2.1; dsimp only; omega)
theorem get_toList {s : ByteArray} {i : Nat} (h : i < s.data.toList.length) : s.get! i = s.data.toList[i] := by
 have h' : i < s.data.size := by simpa using h
 show s.data[i]! = _;rw [getElem!_pos s.data i h']
 simp
theorem name_loop (s : ByteArray) : ∀ n pos, s.size ≤ pos + n → s147_l1 (runesF s n pos) = s91_l1 (s.data.toList.drop pos) pos := by
 intro n
 induction n with
 | zero =>
  intro pos h;rw [List.drop_eq_nil_of_le (by simpa using h)]; rfl
 | succ n ih =>
  intro pos h;unfold runesF
  split
  ·rename_i hp
   have hl : pos < s.data.toList.length := by simpa using hp
   rw [List.drop_eq_getElem_cons hl, s147_l1, s91_l1, ← get_toList hl]
   rcases Nat.lt_or_ge (s.get! pos).toNat 128 with hb | hb
   ·rw [decode_lo hb, ih (pos + 1) (by omega)];have e1 : (decide (((pos : Nat) : Int) = 0)) = decide ((pos : Int) = 0) := rfl;dsimp only;rw [Bool.or_comm ((decide ((65 : Int) ≤ _)) && _)]
   ·have hb2 := decode_hi hb
    have c1 : (!(((decide ((65 : Int) ≤ ((Utf8.decode s pos).1 : Int))) && (decide (((Utf8.decode s pos).1 : Int) ≤ 90))) || ((decide ((97 : Int) ≤ ((Utf8.decode s pos).1 : Int))) && (decide (((Utf8.decode s pos).1 : Int) ≤ 122))))) = true := by
     simp; omega
    have c2 : (!(((decide ((97 : Int) ≤ ((s.get! pos).toNat : Int))) && (decide (((s.get! pos).toNat : Int) ≤ 122))) || ((decide ((65 : Int) ≤ ((s.get! pos).toNat : Int))) && (decide (((s.get! pos).toNat : Int) ≤ 90))))) = true := by
     simp; omega
    dsimp only;rw [c1, c2]
    have d1 : (decide (((Utf8.decode s pos).1 : Int) ≠ 95) && (decide (((Utf8.decode s pos).1 : Int) < 48) || decide (57 < ((Utf8.decode s pos).1 : Int)))) = true := by simp; omega
    have d2 : (decide (((s.get! pos).toNat : Int) ≠ 95) && (decide (((s.get! pos).toNat : Int) < 48) || decide (57 < ((s.get! pos).toNat : Int)))) = true := by simp; omega
    rw [d1, d2]; simp
  ·rename_i hp
   rw [List.drop_eq_nil_of_le (by simpa using hp)]; rfl
theorem name_eq (s : ByteArray) : s147 s = s91 s := by
 unfold s147 s91 runes;rw [name_loop s _ 0 (by omega)]; rfl
theorem s1089_eq (s : ByteArray) : s1089 s = s1093 s := by
 unfold s1089 s1093; rw [name_eq, s1086_ite, cond_eq_ite]
theorem own_l1 (l : List S1122) (k : Nat) (x : List S1122) : s1017_l1 l k x = x ++ l := by
 induction l generalizing k x with
 | nil => simp [s1017_l1]
 | cons y l ih => simp [s1017_l1, ih]
theorem s1017_eq (l : List S1122) : s1017 l = l := by unfold s1017; rw [own_l1]; rfl
theorem crew_l1 (l : List S1124) (k : Nat) (x : List S1124) : s1019_l1 l k x = x ++ l := by
 induction l generalizing k x with
 | nil => simp [s1019_l1]
 | cons y l ih => simp [s1019_l1, ih]
theorem s1019_eq (l : List S1124) : s1019 l = l := by unfold s1019; rw [crew_l1]; rfl
theorem ixO_at {α : Type} {l : List α} {i : Nat} (h : i < l.length) : ixO l (i : Int) = some l[i] := by
 unfold ixO; rw [decide_eq_true (by omega), cond_true]; simp [h]
theorem seek {α β : Type} {l : List α} {p : α → Bool} {e : β} {b : Option β} (F : Nat → Int → Option β) (h0 : ∀ x, F 0 x = b)
  (h1 : ∀ n x, F (n + 1) x = bindO (ixO l x) fun y => bif p y then some e else F n (x + 1)) : ∀ n i, i + n ≤ l.length →
  F n (i : Int) = bif ((l.drop i).take n).any p then some e else b
 | 0, i, _ => by rw [h0]; rfl
 | n + 1, i, h => by
  have hi : i < l.length := by omega
  rw [h1, ixO_at hi, List.drop_eq_getElem_cons hi, List.take_succ_cons, List.any_cons];have := seek F h0 h1 n (i + 1) (by omega);simp only [bindO];rw [show ((i : Int) + 1) = ((i + 1 : Nat) : Int) by push_cast; rfl, this]
  cases p l[i] <;> simp
theorem index_k {α : Type} (p : α → Bool) (F : List α → Nat → Int) (h0 : ∀ k, F [] k = -1) (h1 : ∀ y t k, F (y :: t) k = bif p y then ((k : Nat) : Int) else F t (k + 1)) :
  ∀ l k, decide (0 ≤ F l k) = l.any p
 | [], k => by rw [h0]; rfl
 | y :: t, k => by
  rw [h1, List.any_cons]
  cases p y with
  | true => simp
  | false => simpa using index_k p F h0 h1 t (k + 1)
theorem s1083_eq (l : List S1122) (p : S1122 → Bool) : s1083 l p = l.any p :=
 index_k p (s1136_l1 p) (fun _ => rfl) (fun _ _ _ => rfl) l 0
theorem s1096_eq (l : List S1124) (p : S1124 → Bool) : s1096 l p = l.any p :=
 index_k p (s1137_l1 p) (fun _ => rfl) (fun _ _ _ => rfl) l 0
theorem stands_l (a : List S1122) : ∀ t k, a.drop k = t → s1024_l1 a t k = some (s1081_l1 a s1082 t k)
 | [], k, _ => rfl
 | y :: t, k, h => by
  have hk : k < a.length := by
   rcases Nat.lt_or_ge k a.length with h1 | h1
   ·exact h1
   ·rw [List.drop_eq_nil_of_le h1] at h; cases h
  have ht : a.drop (k + 1) = t := by rw [← List.drop_drop, h]; rfl
  rw [s1024_l1, s1081_l1];have h3 := seek (l := a) (p := fun z => decide (z.Name = y.Name)) (s1024_l2 (fun k_ => s1024_l1 a t k_) a k y) (b := bif decide ((s89 [(s1092 y.Size), (s1093 y.Terminal)]) ≠ 0) then some (s89 [(s1092 y.Size), (s1093 y.Terminal)]) else s1024_l1 a t (k + 1)) (e := 9) (fun _ => rfl) (fun _ _ => rfl) k 0 (by omega);rw [show (((k : Nat) : Int) - 0).toNat = k by omega, show (0 : Int) = ((0 : Nat) : Int) from rfl, h3, stands_l a t (k + 1) ht]
  have h4 : s1082 y (a.take k) = if s91 y.Name = false then 8 else if (a.take k).any (fun z => decide (z.Name = y.Name)) = true then 9 else s89 [(s1092 y.Size), (s1093 y.Terminal)] := by
   unfold s1082;rw [s1085_eq, s1083_eq, s1086_ite, s1086_ite, name_eq, s1089_eq, s1088_eq];simp only [s89_cons, s89_nil, s1084, s1092]
   cases s91 y.Name <;> simp
   split <;> simp_all
  rw [show Int.toNat ((k : Nat) : Int) = k by omega, h4];generalize s89 [(s1092 y.Size), (s1093 y.Terminal)] = E
  cases hn : s91 y.Name
  ·simp
  ·cases ha : (a.take k).any (fun z => decide (z.Name = y.Name)) <;> simp [ha]
   by_cases hE : E = 0 <;> simp [hE]
theorem stands_eq (a : List S1122) : s1024 a = some (s1023 a) := by
 unfold s1024 s1023 s1081;rw [stands_l a a 0 rfl]
 cases decide (32 < (List.length a : Int)) <;> rfl
theorem turns_l (a : List S1124) : ∀ t k, a.drop k = t → s1026_l1 a t k = some (s1094_l1 a s1095 t k)
 | [], k, _ => rfl
 | y :: t, k, h => by
  have hk : k < a.length := by
   rcases Nat.lt_or_ge k a.length with h1 | h1
   ·exact h1
   ·rw [List.drop_eq_nil_of_le h1] at h; cases h
  have ht : a.drop (k + 1) = t := by rw [← List.drop_drop, h]; rfl
  rw [s1026_l1, s1094_l1];have h3 := seek (l := a) (p := fun z => decide (z.Name = y.Name)) (s1026_l2 (fun k_ => s1026_l1 a t k_) a k y) (b := s1026_l2 (fun k_ => s1026_l1 a t k_) a k y 0 0) (e := 9) (fun _ => rfl) (fun _ _ => rfl) k 0 (by omega);rw [show (((k : Nat) : Int) - 0).toNat = k by omega, show s1026_l2 (fun k_ => s1026_l1 a t k_) a k y k 0 = s1026_l2 (fun k_ => s1026_l1 a t k_) a k y k ((0 : Nat) : Int) from rfl, h3]
  have h4 : s1095 y (a.take k) = if s91 y.Name = false then 8 else if (a.take k).any (fun z => decide (z.Name = y.Name)) = true then 9 else s89 [s96 y.Start, s96 y.End, if y.End < y.Start then 11 else 0, (s1092 y.Size), (s1093 y.Terminal)] := by
   unfold s1095;rw [s1085_eq, s1096_eq, s1086_ite, s1086_ite, s1086_ite, name_eq, s1089_eq, s1088_eq, s1098_eq, s1098_eq];simp only [s89_cons, s89_nil, s1097, s1092, decide_eq_true_eq]
   cases s91 y.Name <;> simp
   split <;> simp_all
  have h5 : s1026_l2 (fun k_ => s1026_l1 a t k_) a k y 0 0 = if s89 [s96 y.Start, s96 y.End, if y.End < y.Start then 11 else 0, (s1092 y.Size), (s1093 y.Terminal)] = 0 then s1026_l1 a t (k + 1) else some (s89 [s96 y.Start, s96 y.End, if y.End < y.Start then 11 else 0, (s1092 y.Size), (s1093 y.Terminal)]) := by
   unfold s1026_l2 s1026_j1;simp only [s89_cons, s89_nil]
   by_cases c1 : s96 y.Start = 0 <;> by_cases c2 : s96 y.End = 0 <;> by_cases c3 : y.End < y.Start <;> by_cases c4 : s1092 y.Size = 0 <;> by_cases c5 : s1093 y.Terminal = 0 <;> simp [c1, c2, c3, c4, c5]
  rw [show Int.toNat ((k : Nat) : Int) = k by omega, h4, h5, turns_l a t (k + 1) ht];generalize s89 [s96 y.Start, s96 y.End, if y.End < y.Start then 11 else 0, (s1092 y.Size), (s1093 y.Terminal)] = E
  cases hn : s91 y.Name
  ·simp
  ·cases ha : (a.take k).any (fun z => decide (z.Name = y.Name)) <;> simp [ha]
   by_cases hE : E = 0 <;> simp [hE]
theorem turns_eq (a : List S1124) : s1026 a = some (s1025 a) := by
 unfold s1026 s1025 s1094;rw [turns_l a a 0 rfl]
 cases decide (256 < (List.length a : Int)) <;> rfl
theorem s89_zero : ∀ (l : List Int), s89 l = 0 ↔ ∀ x ∈ l, x = 0
 | [] => by simp [s89_nil]
 | x :: l => by
  rw [s89_cons]
  by_cases h : x = 0
  ·simp [h, s89_zero l]
  ·simp [h]
theorem s90_zero (a b c : Int) : s90 a b c = 0 ↔ b ≤ a ∧ a ≤ c := by rw [s90_ite]; split <;> simp_all
theorem s96_zero (a : Int) : s96 a = 0 ↔ 0 ≤ a ∧ a ≤ 143999999 := s90_zero _ _ _
theorem s1086_zero (b : Bool) (e : Int) (he : e ≠ 0) : s1086 b e = 0 ↔ b = false := by rw [s1086_ite]; cases b <;> simp [he]
structure TurnOk (t : S1124) : Prop where
 s0 : 0 ≤ t.Start
 se : t.Start ≤ t.End
 e1 : t.End ≤ 143999999
 z0 : 1 ≤ t.Size
 z1 : t.Size ≤ 9
 nm : s91 t.Name = true
theorem turns_all (a : List S1124) : ∀ t k, s1094_l1 a s1095 t k = 0 → ∀ y ∈ t, TurnOk y
 | [], _, _, y, hy => by cases hy
 | z :: t, k, h, y, hy => by
  rw [s1094_l1] at h
  by_cases h0 : s1095 z (List.take (Int.toNat ((k : Nat) : Int)) a) = 0
  ·rw [h0] at h
   rcases List.mem_cons.1 hy with rfl | hy
   ·unfold s1095 at h0;rw [s1085_eq, s89_zero] at h0;simp only [List.mem_cons, List.not_mem_nil, or_false, forall_eq_or_imp, forall_eq] at h0;obtain ⟨g1, _, g3, g4, g5, g6, _⟩ := h0;rw [s1086_zero _ _ (by decide), name_eq] at g1;rw [s1098_eq, s96_zero] at g3 g4;rw [s1086_zero _ _ (by decide)] at g5;rw [s1088_eq, s90_zero] at g6
    simp at g1 g5
    exact ⟨g3.1, g5, g4.2, g6.1, g6.2, g1⟩
   ·exact turns_all a t (k + 1) (by simpa using h) y hy
  ·rw [decide_eq_true h0, cond_true] at h; exact absurd h h0
theorem turns_ok {l : List S1124} (h : s1025 l = 0) : l.length ≤ 256 ∧ ∀ y ∈ l, TurnOk y := by
 unfold s1025 s1094 at h
 cases hc : decide ((256 : Int) < (List.length l : Int))
 ·rw [hc] at h;exact ⟨by have := of_decide_eq_false hc; omega, turns_all l l 0 h⟩
 ·rw [hc] at h; simp at h
structure StandOk (t : S1122) : Prop where
 z0 : 1 ≤ t.Size
 z1 : t.Size ≤ 9
 nm : s91 t.Name = true
theorem stands_all (a : List S1122) : ∀ t k, s1081_l1 a s1082 t k = 0 → ∀ y ∈ t, StandOk y
 | [], _, _, y, hy => by cases hy
 | z :: t, k, h, y, hy => by
  rw [s1081_l1] at h
  by_cases h0 : s1082 z (List.take (Int.toNat ((k : Nat) : Int)) a) = 0
  ·rw [h0] at h
   rcases List.mem_cons.1 hy with rfl | hy
   ·unfold s1082 at h0;rw [s1085_eq, s89_zero] at h0;simp only [List.mem_cons, List.not_mem_nil, or_false, forall_eq_or_imp, forall_eq] at h0;obtain ⟨g1, _, g6, _⟩ := h0;rw [s1086_zero _ _ (by decide), name_eq] at g1;rw [s1088_eq, s90_zero] at g6
    simp at g1
    exact ⟨g6.1, g6.2, g1⟩
   ·exact stands_all a t (k + 1) (by simpa using h) y hy
  ·rw [decide_eq_true h0, cond_true] at h; exact absurd h h0
theorem stands_ok {l : List S1122} (h : s1023 l = 0) : l.length ≤ 32 ∧ ∀ y ∈ l, StandOk y := by
 unfold s1023 s1081 at h
 cases hc : decide ((32 : Int) < (List.length l : Int))
 ·rw [hc] at h;exact ⟨by have := of_decide_eq_false hc; omega, stands_all l l 0 h⟩
 ·rw [hc] at h; simp at h
structure MovOk (m : S1079) : Prop where
 m0 : 0 ≤ m.Moment
 m1 : m.Moment ≤ 143999999
 s0 : 0 ≤ m.Seats
 s1 : m.Seats ≤ 999
 n0 : 0 ≤ m.Noise
 n1 : m.Noise ≤ 99
 kd : m.Kind = ⟨#[65]⟩ ∨ m.Kind = ⟨#[68]⟩
 nm : s91 m.Name = true
structure SeatOk (x : S1063) : Prop where
 l0 : 1 ≤ x.Length
 l1 : x.Length ≤ 1440
 s0 : 1 ≤ x.Step
 s1 : x.Step ≤ x.Length
 m0 : 0 ≤ x.Most
 m1 : x.Most ≤ 999999999
 kd : x.Kind = ⟨#[65]⟩ ∨ x.Kind = ⟨#[68]⟩ ∨ x.Kind = ⟨#[84]⟩
theorem s1040_eq (l : List Int) : s1040 l = s89 l := id rfl
theorem alike_sym (a b : ByteArray) : s1126 a b = s1127 b a := by
 unfold s1126 s1127
 by_cases h1 : a = b
 ·subst h1; simp
 ·have h2 : ¬ b = a := fun h => h1 h.symm;simp only [h1, h2, decide_false, Bool.false_or];rw [Bool.or_comm]
theorem suits_eq (t : S1124) (s : S1122) : s1128 t s = s1068 s t := by unfold s1128 s1068; rw [alike_sym]
theorem end_wrap {e b : Int} (h0 : 0 ≤ e) (h1 : e ≤ 143999999) (h2 : 0 ≤ b) (h3 : b ≤ 240) : IntKind.i64.wrap (e + b) = e + b := wrap_i64 (by unfold I64; omega)
theorem overlap_eq {a c : S1124} {b : Int} (ha : TurnOk a) (hc : TurnOk c) (h2 : 0 ≤ b) (h3 : b ≤ 240) : s1130 a c b = s1070 a c b := by
 unfold s1130 s1070 s1131;have := ha.s0; have := ha.se; have := ha.e1; have := hc.s0; have := hc.se; have := hc.e1;rw [end_wrap (by omega) (by omega) h2 h3, end_wrap (by omega) (by omega) h2 h3, end_wrap (by omega) (by omega) h2 h3];rw [Bool.eq_iff_iff]
 simp
 omega
theorem cp_l2_len (a0 : List Int) (x1 : Int) : ∀ (k : Nat) (x5 x6 : Int) (x7 : List Int) (R : List Int × Nat), s1161_l2 a0 x1 k x5 x6 x7 = some R → x7.length = a0.length → 0 ≤ x1 → 1 ≤ x6 → x5 ≤ x1 + x6 - 1 → x1 + x6 ≤ (a0.length : Int) → R.2 ≤ R.1.length
 | 0, _, _, _, _, h, _, _, _, _, _ => by rw [s1161_l2] at h; cases h
 | k + 1, x5, x6, x7, R, h, q1, q2, q3, q4, q5 => by
  rw [s1161_l2] at h
  cases hc : decide (x6 < (((List.length a0) - (Int.toNat x1) : Nat) : Int)) with
  | true =>
   have h := condT h hc;have hc := of_decide_eq_true hc;obtain ⟨y1, _, h⟩ := bindO_inv h;obtain ⟨y2, _, h⟩ := bindO_inv h
   cases hd : decide (y1 ≠ y2) with
   | true =>
    have h := condT h hd;obtain ⟨y3, _, h⟩ := bindO_inv h;obtain ⟨y4, _, h⟩ := bindO_inv h;exact cp_l2_len a0 x1 k _ _ _ _ h (by rw [List.length_set]; exact q1) q2 (by omega) (by omega) (by omega)
   | false =>
    have h := condF h hd;exact cp_l2_len a0 x1 k _ _ _ _ h q1 q2 (by omega) (by omega) (by omega)
  | false =>
   have h := condF h hc
   cases h
   show Int.toNat x5 ≤ (List.take (Int.toNat x5) x7).length;rw [List.length_take]; omega
theorem cp_l1_len (a0 : List Int) : ∀ (k : Nat) (x1 : Int) (R : List Int × Nat), s1161_l1 a0 k x1 = some R → 1 ≤ x1 → R.2 ≤ R.1.length
 | 0, _, _, h, _ => by rw [s1161_l1] at h; cases h
 | k + 1, x1, R, h, q => by
  rw [s1161_l1] at h
  cases hc : decide (x1 < (List.length a0 : Int)) with
  | true =>
   have h := condT h hc;have hc := of_decide_eq_true hc;obtain ⟨y1, _, h⟩ := bindO_inv h;obtain ⟨y2, _, h⟩ := bindO_inv h
   cases hd : decide (y1 = y2) with
   | true => exact cp_l2_len a0 x1 _ _ _ _ _ (condT h hd) rfl (by omega) (by decide) (by omega) (by omega)
   | false => exact cp_l1_len a0 k _ _ (condF h hd) (by omega)
  | false =>
   have h := condF h hc
   cases h
   exact Nat.le_refl _
theorem give1161 {a0 : List Int} {R : List Int × Nat} (h : s1161 a0 = some R) : R.2 ≤ R.1.length := by
 unfold s1161 at h
 cases hc : decide ((List.length a0 : Int) < 2) with
 | true => have h := condT h hc; cases h; exact Nat.le_refl _
 | false => exact cp_l1_len a0 _ _ _ (condF h hc) (by decide)
theorem take_succ_get {l : List Int} {n : Nat} (h : n < l.length) : l.take (n + 1) = l.take n ++ [l[n]] := by
 rw [List.take_succ, List.getElem?_eq_getElem h]; rfl
theorem cp_l2_ok {l : List Int} (hl : l.Pairwise (· ≤ ·)) (p : Nat) (hp : 1 ≤ p) : ∀ (f k j : Nat) (c : List Int), c.length = l.length → c.drop (p + j - 1) = l.drop (p + j - 1) → 1 ≤ j → k ≤ p + j - 1 → p + j ≤ l.length →
  (c.take k).Pairwise (· ≤ ·) → (∀ x, x ∈ c.take k ↔ x ∈ l.take (p + j)) → l.length - (p + j) < f →
  ∃ R, s1161_l2 l (p : Int) f (k : Int) (j : Int) c = some R ∧ (R.1.take R.2).Pairwise (· ≤ ·) ∧ ∀ x, x ∈ R.1.take R.2 ↔ x ∈ l
 | 0, _, _, _, _, _, _, _, _, _, _, h => by omega
 | f + 1, k, j, c, q1, q2, q3, q4, q5, q6, q7, q8 => by
  rw [s1161_l2];have e0 : Int.toNat (p : Int) = p := Int.toNat_natCast p;rw [e0]
  by_cases hc : j < l.length - p
  ·rw [decide_eq_true (by omega : (j : Int) < ((l.length - p : Nat) : Int)), cond_true]
   have hlt : p + j < l.length := by omega
   have g0 : ∀ i, p + j - 1 ≤ i → c[i]? = l[i]? := fun i hi => by
    have := congrArg (fun z : List Int => z[i - (p + j - 1)]?) q2;simp only [List.getElem?_drop] at this
    rwa [show p + j - 1 + (i - (p + j - 1)) = i by omega] at this
   have r1 : ixO (List.drop p c) (j : Int) = some l[p + j] := by
    unfold ixO;rw [decide_eq_true (by omega), cond_true, Int.toNat_natCast, List.getElem?_drop, g0 _ (by omega), List.getElem?_eq_getElem hlt]
   have hlt2 : p + j - 1 < l.length := by omega
   have r2 : ixO (List.drop p c) ((j : Int) - 1) = some l[p + j - 1] := by
    unfold ixO;rw [decide_eq_true (by omega), cond_true, show Int.toNat ((j : Int) - 1) = j - 1 by omega, List.getElem?_drop, show p + (j - 1) = p + j - 1 by omega, g0 _ (Nat.le_refl _), List.getElem?_eq_getElem hlt2]
   rw [r1, r2];simp only [bindO]
   have e1 : (j : Int) + 1 = ((j + 1 : Nat) : Int) := by push_cast; rfl
   have hk : k < c.length := by omega
   have r3 : ixO c (k : Int) = some c[k] := by
    unfold ixO;rw [decide_eq_true (by omega), cond_true, Int.toNat_natCast, List.getElem?_eq_getElem hk]
   by_cases hd : l[p + j] = l[p + j - 1]
   ·rw [decide_eq_false (by simpa using hd), cond_false];unfold s1161_j1;dsimp only;rw [e1];refine cp_l2_ok hl p hp f k (j + 1) c q1 ?_ (by omega) (by omega) (by omega) q6 (fun x => ?_) (by omega)
    ·have := congrArg (List.drop 1) q2;rw [List.drop_drop, List.drop_drop] at this
     rwa [show p + j - 1 + 1 = p + (j + 1) - 1 by omega] at this
    ·rw [q7, show p + (j + 1) = p + j + 1 by omega, take_succ_get hlt, List.mem_append, List.mem_singleton];refine ⟨.inl, fun h => h.elim id fun h => ?_⟩;rw [h, hd];exact List.mem_take_iff_getElem.2 ⟨p + j - 1, by omega, rfl⟩
   ·rw [decide_eq_true hd, cond_true, r3];simp only [bindO];unfold s1161_j1;dsimp only;rw [e1, show (k : Int) + 1 = ((k + 1 : Nat) : Int) by push_cast; rfl, Int.toNat_natCast]
    have tk : (c.set k l[p + j]).take (k + 1) = c.take k ++ [l[p + j]] := by
     rw [List.take_succ, List.take_set_of_le (Nat.le_refl k), List.getElem?_set_self hk]; rfl
    refine cp_l2_ok hl p hp f (k + 1) (j + 1) _ (by rw [List.length_set]; exact q1) ?_ (by omega) (by omega) (by omega) ?_ (fun x => ?_) (by omega)
    ·rw [List.drop_set_of_lt (by omega)];have := congrArg (List.drop 1) q2;rw [List.drop_drop, List.drop_drop] at this
     rwa [show p + j - 1 + 1 = p + (j + 1) - 1 by omega] at this
    ·rw [tk, List.pairwise_append];refine ⟨q6, List.pairwise_singleton _ _, fun a ha b hb => ?_⟩;rw [List.mem_singleton.1 hb];have ha := (q7 a).1 ha;obtain ⟨i, hi, rfl⟩ := List.mem_take_iff_getElem.1 ha;exact List.pairwise_iff_getElem.1 hl i (p + j) (by omega) hlt (by omega)
    ·rw [tk, List.mem_append, q7, show p + (j + 1) = p + j + 1 by omega, take_succ_get hlt, List.mem_append]
  ·rw [decide_eq_false (by omega : ¬ (j : Int) < ((l.length - p : Nat) : Int)), cond_false];refine ⟨_, rfl, ?_, fun x => ?_⟩
   ·show ((List.take (Int.toNat (k : Int)) c).take (Int.toNat (k : Int))).Pairwise _;rw [Int.toNat_natCast, List.take_take, Nat.min_self]; exact q6
   ·show x ∈ (List.take (Int.toNat (k : Int)) c).take (Int.toNat (k : Int)) ↔ _;rw [Int.toNat_natCast, List.take_take, Nat.min_self, q7, List.take_of_length_le (by omega)]
theorem cp_l1_ok {l : List Int} (hl : l.Pairwise (· ≤ ·)) : ∀ (f p : Nat), 1 ≤ p → p ≤ l.length → l.length - p < f →
  ∃ R, s1161_l1 l f (p : Int) = some R ∧ (R.1.take R.2).Pairwise (· ≤ ·) ∧ ∀ x, x ∈ R.1.take R.2 ↔ x ∈ l
 | 0, _, _, _, h => by omega
 | f + 1, p, q1, q2, q3 => by
  rw [s1161_l1]
  by_cases hc : p < l.length
  ·rw [decide_eq_true (by omega : (p : Int) < (l.length : Int)), cond_true]
   have r1 : ixO l (p : Int) = some l[p] := by
    unfold ixO;rw [decide_eq_true (by omega), cond_true, Int.toNat_natCast, List.getElem?_eq_getElem hc]
   have hlt2 : p - 1 < l.length := by omega
   have r2 : ixO l ((p : Int) - 1) = some l[p - 1] := by
    unfold ixO;rw [decide_eq_true (by omega), cond_true, show Int.toNat ((p : Int) - 1) = p - 1 by omega, List.getElem?_eq_getElem hlt2]
   rw [r1, r2];simp only [bindO]
   by_cases hd : l[p] = l[p - 1]
   ·rw [decide_eq_true hd, cond_true];refine cp_l2_ok hl p q1 _ p 1 l rfl rfl (Nat.le_refl _) (by omega) (by omega) (hl.sublist (List.take_sublist _ _)) (fun x => ?_) (by omega);rw [take_succ_get hc, List.mem_append, List.mem_singleton];refine ⟨.inl, fun h => h.elim id fun h => ?_⟩;rw [h, hd];exact List.mem_take_iff_getElem.2 ⟨p - 1, by omega, rfl⟩
   ·rw [decide_eq_false hd, cond_false, show (p : Int) + 1 = ((p + 1 : Nat) : Int) by push_cast; rfl];exact cp_l1_ok hl f (p + 1) (by omega) (by omega) (by omega)
  ·rw [decide_eq_false (by omega : ¬ (p : Int) < (l.length : Int)), cond_false];refine ⟨_, rfl, ?_, fun x => ?_⟩
   ·show (l.take l.length).Pairwise _; rw [List.take_length]; exact hl
   ·show x ∈ l.take l.length ↔ _; rw [List.take_length]
theorem cp_ok {l : List Int} (hl : l.Pairwise (· ≤ ·)) : ∃ R, s1161 l = some R ∧ (R.1.take R.2).Pairwise (· ≤ ·) ∧ ∀ x, x ∈ R.1.take R.2 ↔ x ∈ l := by
 unfold s1161
 by_cases hc : (l.length : Int) < 2
 ·rw [decide_eq_true hc, cond_true];refine ⟨_, rfl, ?_, fun x => ?_⟩
  ·show (l.take l.length).Pairwise _; rw [List.take_length]; exact hl
  ·show x ∈ l.take l.length ↔ _; rw [List.take_length]
 ·rw [decide_eq_false hc, cond_false];exact cp_l1_ok hl _ 1 (Nat.le_refl _) (by omega) (by omega)
theorem s1196_l2_ok (rec1 : Int → List Int → Option (List Int)) (x1 : Int) (x : Int) : ∀ (P B : List Int) (k : Nat), P.length < k →
  s1196_l2 rec1 0 x1 k (P.length : Int) (P.reverse ++ x :: B) = rec1 (x1 + 1) ((insB s1194 x P).reverse ++ B)
 | [], B, 0, h => by omega
 | [], B, k + 1, h => by
  rw [s1196_l2]
  have e : decide ((0 : Int) < (([] : List Int).length : Int)) = false := by simp
  simp only [e, cond_false, bindO, Bool.false_and, insB]
  simp
 | y :: r, B, 0, h => by omega
 | y :: r, B, k + 1, h => by
  have e : decide ((0 : Int) < ((y :: r).length : Int)) = true := by simp <;> omega
  have l1 : (y :: r).reverse ++ x :: B = (r.reverse ++ [y]) ++ x :: B := by simp
  have l2 : (r.reverse ++ [y]) ++ x :: B = r.reverse ++ y :: (x :: B) := by simp
  have i1 : ixO ((r.reverse ++ [y]) ++ x :: B) ((y :: r).length : Int) = some x := ixO_app' (by simp)
  have i2 : ixO ((r.reverse ++ [y]) ++ x :: B) (((y :: r).length : Int) - 1) = some y := by rw [l2]; exact ixO_app' (by simp)
  rw [s1196_l2, l1];simp only [e, cond_true, i1, i2, bindO, Bool.true_and]
  cases hl : s1194 x y with
  | true =>
   have e1 : List.set ((r.reverse ++ [y]) ++ x :: B) (Int.toNat ((y :: r).length : Int)) y = (r.reverse ++ [y]) ++ y :: B := set_app (by simp)
   have e2 : List.set ((r.reverse ++ [y]) ++ y :: B) (Int.toNat (((y :: r).length : Int) - 1)) x = r.reverse ++ x :: (y :: B) := by
    rw [show (r.reverse ++ [y]) ++ y :: B = r.reverse ++ y :: (y :: B) by simp];exact set_app (by simp)
   have e3 : (((y :: r).length : Int) - 1) = (r.length : Int) := by simp
   have hih := s1196_l2_ok rec1 x1 x r (y :: B) k (by simp at h; omega)
   have i3 : ixO (List.set ((r.reverse ++ [y]) ++ x :: B) (Int.toNat ((y :: r).length : Int)) y) (((y :: r).length : Int) - 1) = some y := by
    rw [e1, show (r.reverse ++ [y]) ++ y :: B = r.reverse ++ y :: (y :: B) by simp];exact ixO_app' (by simp)
   rw [cond_true];simp only [i3];rw [e1, e2, e3, hih]
   simp [insB, hl]
  | false =>
   rw [cond_false]
   simp [insB, hl]
theorem s1196_l1_ok : ∀ (l P : List Int), s1196_l1 0 l.length (P.length : Int) (P.reverse ++ l) = some (insS s1194 P l)
 | [], P => by rw [List.length_nil, s1196_l1, insS, List.append_nil]
 | x :: l, P => by
  rw [List.length_cons, s1196_l1, s1196_l2_ok _ _ x P l _ (by omega), insS];have := s1196_l1_ok l (insB s1194 x P);rw [← this, insB_len]
  simp
theorem s1196_ok (l : List Int) : s1196 l 0 (l.length : Int) = some (isort s1194 l) := by
 unfold s1196 isort
 cases l with
 | nil => rfl
 | cons x l =>
  have e : ((((x :: l).length : Int) - (0 + 1)).toNat) = l.length := by simp
  rw [e, insS];exact s1196_l1_ok l [x]
theorem s1160_ok (l : List Int) : s1160 l = some (isort s1194 l) := by
 unfold s1160 s1176;rw [s1176_l1, s1196_ok];simp only [bindO]
section
variable {E : Env} {w0 : World} {M0 : Nat → Prop}
def AgF (c k : Nat) (xs : List (List G)) (ev : Operand → TV) : List Operand → List G → Prop
 | [], [] => True
 | x :: l, g :: gs => (ev x = .g g ∨ (ev x = .osl c (k + 1) 0 xs.length ∧ g = .sl (k + 1) xs)) ∧ AgF c k xs ev l gs
 | _, _ => False
theorem agf_nil {c k : Nat} {xs : List (List G)} {ev : Operand → TV} : AgF c k xs ev [] [] := trivial
theorem agf_cons {c k : Nat} {xs : List (List G)} {ev : Operand → TV} {x : Operand} {l : List Operand} {g : G} {gs : List G} (h : ev x = .g g) (hl : AgF c k xs ev l gs) : AgF c k xs ev (x :: l) (g :: gs) := ⟨.inl h, hl⟩
theorem agf_osl {α : Type} {f0 : α → List G} {c k N : Nat} {l0 : List α} {ev : Operand → TV} {x : Operand} {l : List Operand} {gs : List G} (hN : l0.length = N) (h : ev x = .osl c (k + 1) 0 N) (hl : AgF c k (l0.map f0) ev l gs) : AgF c k (l0.map f0) ev (x :: l) (.sl (k + 1) (l0.map f0) :: gs) :=
 ⟨.inr ⟨by rw [h, List.length_map, hN], rfl⟩, hl⟩
theorem eff_callF {o : Oper} {mem : Mem} {ev : Operand → TV} {f : FuncId} {aps : Array Operand} {ts : Array TypeId} {args : List G} {r : G} {e : TypeId} {k : Nat} {xs : List (List G)} (c : Nat) (ho : o.op = .call ⟨.value (.func f), aps, ts⟩)
  (hk : Known E.P f) (hev : ev (.func f) = .g (.lit (.func (.func f) #[] #[]))) (hc : Con E f args r) (ha : AgF c k xs ev aps.toList args) (hl : lookO mem c = some (.arr e (k + 1) xs))
  (hrefs : ∀ i blk, lookO mem i = some blk → i ≠ c → blk.noref (some c) = true) (hbw : lookO E.bow c = none := by rfl) :
  EffW E o mem ev (.g r) ((c, .gone) :: mem) (some c) := by
 intro w0 M0 ρ w e' hm hx;obtain ⟨fn, h1, h2, h3⟩ := hk
 have hef : e' (.func f) = .func (.func f) #[] #[] := by
  have := hx (.func f) (by rw [ho]; simp [Op.operands, Call.operands]);rw [hev] at this;exact this
 have hres : (execOp e' o).run E.P w = .ok (.enter f (aps.toList.map e').toArray) w := by
  simp [execOp, ho, resolve, hef, Deferred.ofValue, invoke, run_callFunc h1 h2 h3, ← Array.toList_map]
 rw [hres]
 let ρ' : Rho := fun id => if id = c then none else ρ id
 have hρn : ∀ id, id ≠ c → ρ' id = ρ id := fun id h => by simp only [ρ', if_neg h]
 have hρ' : ∀ id x, ρ' id = some x → ρ id = some x ∧ id ≠ c := by
  intro id x h;simp only [ρ'] at h
  split at h
  ·cases h
  ·exact ⟨h, by assumption⟩
 have hM : ∀ b, owned M0 ρ' b → owned M0 ρ b := by
  rintro b (hb | ⟨id, o, ho, rfl⟩)
  ·exact .inl hb
  ·exact .inr ⟨id, o, (hρ' id _ ho).1, rfl⟩
 have hno : ∀ ow, ρ c = some (some ow) → ¬ owned M0 ρ' ow.b := by
  rintro ow ho (hM0 | ⟨i, o, hi, he⟩)
  ·exact not_lent hm ho hbw (.inl hM0)
  ·exact (hρ' i _ hi).2 (hm.inj i c o ow (hρ' i _ hi).1 ho he)
 have hkl : ∀ id, some id ≠ some c → ρ id ≠ none → ρ' id = ρ id := fun id h _ => hρn id fun e => h (by rw [e])
 have hne : ∀ id b, lookO ((c, Blk.gone) :: mem) id = some b → (id = c ∧ b = .gone) ∨ (id ≠ c ∧ lookO mem id = some b) := by
  intro id b h;simp only [lookO] at h
  cases hbq : Nat.beq c id with
  | true =>
   rw [hbq] at h;exact .inl ⟨(Nat.eq_of_beq_eq_true hbq).symm, by simpa using h.symm⟩
  | false =>
   rw [hbq] at h;refine .inr ⟨fun e => ?_, h⟩;rw [e, Nat.beq_refl] at hbq; cases hbq
 have hglob : GlOk E w (owned M0 ρ') := by
  intro g vs hg;have := hm.glob g vs hg;exact ⟨⟨fun hb => this.1.1 (hM _ hb), this.1.2⟩, this.2.mono (fun _ _ _ => rfl) (fun b _ => hM b) this.1.1⟩
 have hm' : MRel E w0 M0 ρ' ((c, .gone) :: mem) w := by
  refine ⟨hm.below, hm.m0, hglob, ?_, ?_, ?_, ?_, hm.lentM, ?_⟩
  ·intro id x h;obtain ⟨h1, h2⟩ := hρ' id x h;obtain ⟨b, hb⟩ := hm.dom id x h1;refine ⟨b, ?_⟩;simp only [lookO]
   rw [show Nat.beq c id = false from by
    cases hbq : Nat.beq c id with
    | true => exact absurd (Nat.eq_of_beq_eq_true hbq).symm h2
    | false => rfl]
   exact hb
  ·exact fun id ow h => hm.fresh id ow (hρ' id _ h).1
  ·exact fun id id' ow ow' h1 h2 => hm.inj id id' ow ow' (hρ' id _ h1).1 (hρ' id' _ h2).1
  ·intro id x h;rw [hρn id (fun e => by rw [e, hbw] at h; cases h)];exact hm.keep id x h
  ·intro id blk h
   rcases hne id blk h with ⟨_, rfl⟩ | ⟨h1, h2⟩
   ·trivial
   ·exact (hm.blk id blk h2).mono (some c) (fun e => h1 (Option.some.inj e)) (hrefs id blk h2 h1) (fun ow ho => rfl) (fun _ _ _ => rfl) (fun b _ => hM b) hkl
 have hv : ∀ (l : List Operand) (args : List G), (∀ x ∈ l, TRel w (owned M0 ρ) ρ (ev x) (e' x)) → AgF c k xs ev l args → FitsT w (owned M0 ρ') args (l.map e') := by
  intro l
  induction l with
  | nil =>
   intro args _ h
   cases args with
   | nil => trivial
   | cons _ _ => exact h.elim
  | cons x l ih =>
   intro args hx h
   cases args with
   | nil => exact h.elim
   | cons g gs =>
    refine ⟨?_, ih gs (fun y hy => hx y (List.mem_cons_of_mem _ hy)) h.2⟩;have h0 := hx x List.mem_cons_self
    rcases h.1 with h1 | ⟨h1, rfl⟩
    ·rw [h1] at h0;exact g.mono h0 (fun _ _ _ => rfl) (fun b _ => hM b)
    ·rw [h1] at h0;have hview := osl_view hm hl h0 (Nat.zero_le _) (Nat.le_refl _);obtain ⟨a', cap, e1, g1, g2, g3, g4, g5, g6⟩ := hview;simp only [Nat.sub_zero, List.drop_zero, List.take_length] at e1 g1 g4 g5 g6;refine ⟨a', cap, e1, g1, g2, g5, ?_⟩
     rcases g6 with g6 | ⟨b, o, cur, news, rfl, ⟨ow, k0, rfl⟩, k1, k2, k3⟩
     ·have : xs = [] := List.eq_nil_of_length_eq_zero g6;subst this;exact .inl ⟨rfl, fun ha => (g3 ha).1⟩
     ·exact .inr ⟨ow.b, o, rfl, hno ow k0, cells_of_fits k1 (k2.mono (fun _ _ _ => rfl) (fun b _ => hM b)) k3⟩
 refine (hc w (owned M0 ρ') _ (fun b h => hm'.lt b h) hglob (hv aps.toList args (fun x hx' => hx x (by rw [ho]; simp [Op.operands, Call.operands]; exact .inr (by simpa using hx'))) ha)).mono ?_;rintro _ w' ⟨v, rfl, hg, hr⟩;exact ⟨v, rfl, ρ', hm'.grow hg, fun tv u hn' h => (h.mono (some c) hn' (fun _ _ _ => rfl) (fun b _ => hM b) hkl : TRel w (owned M0 ρ') ρ' tv u).grow hg, hr⟩
theorem flatI9 {l : List Int} (h : l.length = 9) : (l.map cInt).flatten = [G.int (l.getD 0 0), G.int (l.getD 1 0), G.int (l.getD 2 0), G.int (l.getD 3 0), G.int (l.getD 4 0), G.int (l.getD 5 0), G.int (l.getD 6 0), G.int (l.getD 7 0), G.int (l.getD 8 0)] := by
 match l, h with
 | [a, b, c, d, e, f, g, h, i], _ => rfl
theorem eff_loadVI {o : Oper} {mem : Mem} {ev : Operand → TV} {t e : TypeId} {x : Operand} {kk id : Nat} {l : List Int} {cs : List G} (ho : o.op = .load t x) (ht : tyK E.P t = some (kk, true)) (hx : ev x = .eptr id 1 0 0) (hb : lookO mem id = some (.arr e 1 (l.map cInt))) (hk : l.length = kk) (hc : (l.map cInt).flatten = cs) : Eff E o mem ev (.g (.agg cs)) := by
 subst hc;exact eff_loadV ho ht hx hb (by rw [List.length_map, hk, Nat.mul_one])
end
theorem eqIs_dec : ∀ (a b : List Int), Go.Ex.eqIs a b = decide (a = b)
 | [], [] => by simp [Go.Ex.eqIs]
 | [], _ :: _ => by simp [Go.Ex.eqIs]
 | _ :: _, [] => by simp [Go.Ex.eqIs]
 | a :: x, b :: y => by rw [Go.Ex.eqIs, Go.Ex.eqI_eq, eqIs_dec x y]; simp
theorem fits_litsI {w : World} {M : Nat → Prop} (l : List Int) {vs : List Value} (h : Fits w M (l.map cInt).flatten vs) : vs = l.map (Value.int .i64) := by
 have e : (l.map cInt).flatten = (l.map (Value.int .i64)).map G.lit := by
  clear h
  induction l with
  | nil => rfl
  | cons a l ih => rw [List.map_cons, List.flatten_cons, ih]; rfl
 rw [e] at h;exact fits_lits_eq h
theorem eff_arr {E : Env} {o : Oper} {ev : Operand → TV} {op : BinOp} {t : TypeId} {x y : Operand} {t' : TypeId} {n : Nat} {la lb : List Int} {ca cb : List G} {r : Bool} (ho : o.op = .binOp op t x y t') (hop : op = .eql ∧ r = decide (la = lb) ∨ op = .neq ∧ r = !decide (la = lb)) (hk : Go.Ex.arrK E.P t = some (n, .i64))
  (hx : ev x = .g (.agg ca)) (hy : ev y = .g (.agg cb)) (h1 : ca = (la.map cInt).flatten) (h2 : cb = (lb.map cInt).flatten) (n1 : la.length = n) (n2 : lb.length = n) (mem : Mem) : Eff E o mem ev (.g (.bool r)) :=
 eff_same (fun w M ρ e he => by
  have g1 := he x (by rw [ho]; simp [Op.operands]);rw [hx] at g1;obtain ⟨vs, g1, f1⟩ := g1;rw [h1] at f1;have := fits_litsI la f1; subst this;have g2 := he y (by rw [ho]; simp [Op.operands]);rw [hy] at g2;obtain ⟨us, g2, f2⟩ := g2;rw [h2] at f2;have := fits_litsI lb f2; subst this
  have key : (Op.equal t (.agg (la.map (Value.int .i64)).toArray) (.agg (lb.map (Value.int .i64)).toArray)).run E.P w = .ok (decide (la = lb)) w ∧ E.P.eqGuardType E.P.depth t = false := by
   unfold Go.Ex.arrK at hk
   split at hk
   ·rename_i n' e hu
    split at hk
    ·rename_i k' hue
     cases hcc : (Nat.beq (E.P.cellsOf e) 1 && (E.P.info? e).isSome && !(E.P.eqGuardType E.P.depth t)) with
     | false => rw [hcc] at hk; cases hk
     | true =>
      rw [hcc] at hk
      cases hk
      simp only [Bool.and_eq_true, Bool.not_eq_true'] at hcc;obtain ⟨⟨d1, d2⟩, d3⟩ := hcc;have d1 := Nat.eq_of_beq_eq_true d1;obtain ⟨i, hi⟩ := Option.isSome_iff_exists.1 d2;refine ⟨?_, d3⟩;have := run_equalIn_array (P := E.P) (w := w) 9999 (la.map (Value.int .i64)).toArray (lb.map (Value.int .i64)).toArray hu hi;rw [d1, List.range_eq_range', Go.Ex.run_eqInts 9998 hue la lb (by omega) n 0 (by omega)] at this;rw [List.drop_zero, List.drop_zero, eqIs_dec] at this;exact this
    ·cases hk
   ·cases hk
  refine ⟨.bool r, ?_, rfl⟩
  rcases hop with ⟨rfl, rfl⟩ | ⟨rfl, rfl⟩ <;>
   simp [execOp, ho, g1, g2, eqGuard, key.2, binOp, key.1]) mem
theorem eff_arrneq {E : Env} {o : Oper} {ev : Operand → TV} {t : TypeId} {x y : Operand} {t' : TypeId} {n : Nat} (la lb : List Int) {ca cb : List G} (ho : o.op = .binOp .neq t x y t') (hk : Go.Ex.arrK E.P t = some (n, .i64))
  (hx : ev x = .g (.agg ca)) (hy : ev y = .g (.agg cb)) (h1 : ca = (la.map cInt).flatten) (h2 : cb = (lb.map cInt).flatten) (n1 : la.length = n) (n2 : lb.length = n) (mem : Mem) : Eff E o mem ev (.g (.bool (!decide (la = lb)))) := eff_arr ho (.inr ⟨rfl, rfl⟩) hk hx hy h1 h2 n1 n2 mem
end Go.Sim
set_option maxRecDepth 10000
namespace Go.Sim
open Go.Proofs
def s1121_l1  : List S1124 → Nat → (List Int) → Option (List Int)
 | [], k3, x1 => bindO (s1160 x1) fun r6 => bindO (s1161 r6) fun r7 => some (List.take r7.2 r7.1)
 | y4 :: t5, k3, x1 => s1121_l1  t5 (k3 + 1) (x1 ++ [y4.Start])
def s1121 (a0 : List S1124) : Option (List Int) :=
 s1121_l1 a0 0 []
theorem c1121 (a0 : List S1124) {R : List Int}  (hb : a0.length ≤ 12) (hR : s1121 a0 = some R) : Con (EG glT) 121 [G.sl 5 (List.map S1124.c a0)] (G.sl 1 (List.map cInt R)) := by
 unfold s1121 at hR;refine con_of_aw Tryz.func121 rfl rfl fun w0 M0 => ?_;refine len_sl (f := S1124.c) (l := a0) 0 rfl fun hla0 => ?_;refine aw_seq ?_;refine aw_region [.p] ?_;refine st rfl rfl (eff_assigng rfl rfl) rfl ?_;refine st_nil ?_;refine aw_seq ?_;refine aw_region [.w] ?_;refine st_w rfl rfl (eff_nilL 3 3 1 rfl rfl rfl) rfl ?_;refine st_nil ?_;refine aw_seq ?_;refine aw_seq ?_;refine aw_region [.p, .p, .p] ?_;refine st rfl rfl (eff_moveg rfl rfl) rfl ?_;refine st rfl rfl (eff_lenM (f := S1124.c) (l := a0) rfl Tryz.underlying23 rfl) rfl ?_;refine st rfl rfl (eff_moveg rfl rfl) rfl ?_;refine st_nil ?_;refine aw_block ?_;refine aw_loop_g (γ := Nat × (List S1124) × (List Int)) (fun g => ([(3, .osl 3 1 0 (List.length g.2.2)), (6, .g (G.sl 5 (List.map S1124.c a0))), (7, .g (G.int (List.length a0 : Int))), (8, .g (G.int ((g.1 : Nat) : Int)))], [(3, .arr 3 1 (List.map cInt g.2.2))])) (fun g => g.2.2.length ≤ g.1 ∧ g.1 ≤ a0.length ∧ a0.drop g.1 = g.2.1 ∧ s1121_l1  g.2.1 g.1 g.2.2 = some R) (fun g => List.length g.2.1) ⟨rfl, (0, a0, []), ⟨rfl, rfl, rfl, rfl, trivial⟩, ⟨rfl, trivial⟩, rfl, ⟨(by first | (simp; done) | (simp; omega)), (by first | (simp; done) | (simp; omega)), rfl, hR⟩, trivial⟩ ?_
 ·rintro ⟨k3, t5, x1⟩ ⟨iv1_0, iv1_1, hd, hR⟩;replace hd : a0.drop k3 = t5 := hd;replace hR : s1121_l1  t5 k3 x1 = some R := hR;replace iv1_0 : x1.length ≤ k3 := iv1_0;replace iv1_1 : k3 ≤ a0.length := iv1_1;refine aw_seq ?_;refine aw_region [.p] ?_;refine st rfl rfl (eff_lss rfl rfl rfl) rfl ?_;refine st_nil ?_;refine len_sl (f := S1124.c) (l := a0) 6 rfl fun hlz1 => ?_;refine aw_seq ?_;refine aw_cond _ rfl (fun h1 => ?_) (fun h1 => ?_)
  ·replace h1 : (decide (((k3 : Nat) : Int) < (List.length a0 : Int))) = true := h1;obtain ⟨y4, t5, rfl, hx1, hd⟩ := drop_cons hd (decT h1);replace h1 := decT h1;rw [s1121_l1] at hR;(try dsimp only at hR);refine aw_skip ?_;refine aw_seq ?_;refine aw_block ?_;refine aw_seq ?_;refine aw_region [.p, .p, .w, .w] ?_;refine st rfl rfl (eff_ix (f := S1124.c) (l := a0) (a := y4) rfl Tryz.underlying23 ty1125 rfl rfl (Int.natCast_nonneg _) hx1) rfl ?_;refine st rfl rfl (eff_loadA rfl ty1125 rfl rfl rfl) rfl ?_;refine st_w rfl rfl (eff_alloc 5 rfl z1125 rfl rfl) rfl ?_;refine st_wn rfl rfl (eff_store (tv := .g (G.agg [G.str y4.Name, G.int y4.Start, G.int y4.End, G.int y4.Size, G.str y4.Terminal])) rfl ty1125 rfl rfl rfl rfl rfl) ?_;refine st_nil ?_;refine aw_region [.p, .p, .r, .p, .k, .p] ?_;refine st rfl rfl (eff_moveO rfl rfl) rfl ?_;refine st rfl rfl (eff_fieldO rfl fl1125_1 rfl) rfl ?_;refine st_r rfl rfl (eff_loadO rfl ty3 rfl rfl rfl) rfl ?_;refine st rfl rfl (eff_buildSlice rfl Tryz.underlying51 ty3 z3 rfl (ps_cons rfl ps_nil) rfl (by simp []) (by decide)) rfl ?_;refine st_k rfl rfl (eff_appL (f := cInt) (out := x1) (new := [y4.Start]) rfl app82 rfl rfl (src_eq rfl (src_sl (by decide) (by simp []))) (refsN rfl) (by simp; omega)) rfl ?_;refine st rfl rfl (eff_assignO rfl rfl) rfl ?_;refine st_nil ?_;refine aw_region [.p, .p] ?_;refine st rfl rfl (eff_add rfl rfl rfl (by unfold I64; omega)) rfl ?_;refine st rfl rfl (eff_moveg rfl rfl) rfl ?_;refine st_nil ?_;exact ⟨rfl, (k3 + 1, t5, x1 ++ [y4.Start]), ⟨rfl, rfl, rfl, rfl, trivial⟩, ⟨rfl, trivial⟩, rfl, ⟨(by first | omega | (dsimp only; omega) | (simp at *; omega)), (by first | omega | (dsimp only; omega) | (simp at *; omega)), hd, hR⟩, by simp⟩
  ·replace h1 : (decide (((k3 : Nat) : Int) < (List.length a0 : Int))) = false := h1;obtain rfl := drop_nil hd (decF h1);rw [s1121_l1] at hR;refine aw_exit ?_;refine aw_seq ?_;obtain ⟨r6, br6, hR⟩ := bindO_inv hR;refine aw_region [.p, .w] ?_;refine st rfl rfl (eff_moveO rfl rfl) rfl ?_;refine st_w rfl rfl (eff_callB1 0 3 rfl K1160 rfl (c1160 x1 rfl (by first | assumption | omega | (simp [copyL_len]; done) | (simp [copyL_len]; omega)) br6) (at_cons rfl rfl at_nil) rfl rfl rfl) rfl ?_;refine st_nil ?_;refine aw_seq ?_;obtain ⟨r7, br7, hR⟩ := bindO_inv hR;refine aw_region [.p, .k, .p] ?_;refine st rfl rfl (eff_moveO rfl rfl) rfl ?_;refine st_k rfl rfl (eff_giveL (f0 := cInt) (l := r6) (l' := r7.1) (n := r7.2) 3 rfl K1161 rfl (c1161 r6 br7) (at_cons rfl (osl_ren ((len1160 br6).trans rfl)) at_nil) rfl (refsN rfl) (give1161 br7)) rfl ?_;refine st rfl rfl (eff_assigng rfl rfl) rfl ?_;refine st_nil ?_;refine aw_ret ?_;obtain rfl := Option.some.inj hR;exact res_c rfl (rv_g rfl)
def s1054_j1  (x1 : Int) (x2 : Int) : Option (S1106 × Int) :=
 some ((S1106.mk x1 x2), (s1086 (eqAnd [decide (x1 = 0), decide (x2 = 0)]) 7))
def s1054_l2 (rec1 : Nat → Option (S1106 × Int)) (a0 : List S1122) (a1 : List S1124) (a2 : Int) (k5 : Nat) (y6 : Int) : Nat → Int → Option (S1106 × Int)
 | 0, x8 => rec1 (k5 + 1)
 | k10 + 1, x8 => (bif (s1122 a0 a1 a2 (S1106.mk y6 (9 - x8))) then s1054_j1 y6 (9 - x8) else s1054_l2 rec1 a0 a1 a2 k5 y6 k10 (x8 + 1))
def s1054_l1 (a0 : List S1122) (a1 : List S1124) (a2 : Int) : List Int → Nat → Option (S1106 × Int)
 | [], k5 => s1054_j1 0 0
 | y6 :: t7, k5 => s1054_l2 (fun k_ => s1054_l1 a0 a1 a2 t7 k_) a0 a1 a2 k5 y6 (((9 : Int) - 0).toNat) 0
def s1054 (a0 : List S1122) (a1 : List S1124) (a2 : Int) : Option (S1106 × Int) :=
 (bif decide ((s1104 a0 a1 a2) ≠ 0) then some ((S1106.mk 0 0), (s1104 a0 a1 a2)) else bindO (s1121 a1) fun r3 => s1054_l1 a0 a1 a2 r3 0)
theorem c1054 (a0 : List S1122) (a1 : List S1124) (a2 : Int) {R : S1106 × Int}  (hb : ¬ s1104 a0 a1 a2 ≠ 0 → a1.length ≤ 12) (hR : s1054 a0 a1 a2 = some R) : Con (EG glT) 54 [G.sl 3 (List.map S1122.c a0), G.sl 5 (List.map S1124.c a1), G.int a2] (G.tup [G.agg [G.int R.1.Moment, G.int R.1.Size], G.int R.2]) := by
 unfold s1054 at hR;refine con_of_aw Tryz.func54 rfl rfl fun w0 M0 => ?_;refine len_sl (f := S1122.c) (l := a0) 0 rfl fun hla0 => ?_;refine len_sl (f := S1124.c) (l := a1) 1 rfl fun hla1 => ?_;refine aw_seq ?_;refine aw_region [.w, .p] ?_;refine st_w rfl rfl (eff_alloc 6 rfl z1107 rfl rfl) rfl ?_;refine st rfl rfl (eff_assigng rfl rfl) rfl ?_;refine st_nil ?_;refine aw_scope ?_;refine aw_seq ?_;refine aw_seq ?_;refine aw_region [.p, .p, .p, .p, .p] ?_;refine st rfl rfl (eff_moveg rfl rfl) rfl ?_;refine st rfl rfl (eff_moveg rfl rfl) rfl ?_;refine st rfl rfl (eff_moveg rfl rfl) rfl ?_;refine st rfl rfl (eff_call rfl K1104 rfl (c1104 a0 a1 a2) (ag_cons rfl (ag_cons rfl (ag_cons rfl ag_nil)))) rfl ?_;refine st rfl rfl (eff_assigng rfl rfl) rfl ?_;refine st_nil ?_;refine aw_seq ?_;refine aw_region [.p, .p] ?_;refine st rfl rfl (eff_moveg rfl rfl) rfl ?_;refine st rfl rfl (eff_neq rfl rfl rfl) rfl ?_;refine st_nil ?_;refine aw_cond _ rfl (fun h1 => ?_) (fun h1 => ?_)
 ·replace h1 : (decide ((s1104 a0 a1 a2) ≠ 0)) = true := h1;replace hR := condT hR h1;(try simp only [Bool.or_eq_true, Bool.and_eq_true, Bool.or_eq_false_iff, Bool.and_eq_false_iff, Bool.not_eq_true', Bool.not_eq_false', decide_eq_true_eq, decide_eq_false_iff_not] at h1);refine aw_seq ?_;refine aw_region [.p, .p, .w, .p] ?_;refine st rfl rfl (eff_build rfl z1107 rfl pl1107 pb_nil rfl) rfl ?_;refine st rfl rfl (eff_moveg rfl rfl) rfl ?_;refine st_wn rfl rfl (eff_store (tv := .g (G.agg [G.int 0, G.int 0])) rfl ty1107 rfl rfl rfl rfl rfl) ?_;refine st rfl rfl (eff_assigng rfl rfl) rfl ?_;refine st_nil ?_;refine aw_ret ?_;obtain rfl := Option.some.inj hR;exact resN rfl ⟨rv_cell rfl rfl ty1107 rfl rfl, rv_g rfl, trivial⟩ (by simp)
 ·replace h1 : (decide ((s1104 a0 a1 a2) ≠ 0)) = false := h1;replace hR := condF hR h1;(try simp only [Bool.or_eq_true, Bool.and_eq_true, Bool.or_eq_false_iff, Bool.and_eq_false_iff, Bool.not_eq_true', Bool.not_eq_false', decide_eq_true_eq, decide_eq_false_iff_not] at h1);have hb1 := hb h1;refine aw_skip ?_;refine aw_seq ?_;refine aw_region [.w] ?_;refine st_w rfl rfl (eff_alloc 9 rfl z1107 rfl rfl) rfl ?_;refine st_nil ?_;refine aw_seq ?_;refine aw_label ?_;refine aw_cut_g (γ := Int × Int) (fun g => ([(6, .ptr 6 0), (9, .ptr 9 0)], [(6, .box [.g (G.int 0), .g (G.int 0)]), (9, .box [.g (G.int g.1), .g (G.int g.2)])])) (fun g => s1054_j1 g.1 g.2 = some R) ?_ ?_
  ·refine aw_seq ?_;obtain ⟨r3, br3, hR⟩ := bindO_inv hR;refine aw_region [.p, .p, .p, .p] ?_;refine st rfl rfl (eff_moveg rfl rfl) rfl ?_;refine st rfl rfl (eff_call rfl K1121 rfl (c1121 a1 (by first | assumption | omega | (simp [copyL_len]; done) | (simp [copyL_len]; omega)) br3) (ag_cons rfl ag_nil)) rfl ?_;refine st rfl rfl (eff_lenM (f := cInt) (l := r3) rfl Tryz.underlying51 rfl) rfl ?_;refine st rfl rfl (eff_moveg rfl rfl) rfl ?_;refine st_nil ?_;refine aw_block ?_;refine aw_loop_g (γ := Nat × (List Int)) (fun g => ([(0, .g (G.sl 3 (List.map S1122.c a0))), (1, .g (G.sl 5 (List.map S1124.c a1))), (2, .g (G.int a2)), (6, .ptr 6 0), (9, .ptr 9 0), (23, .g (G.sl 1 (List.map cInt r3))), (24, .g (G.int (List.length r3 : Int))), (25, .g (G.int ((g.1 : Nat) : Int)))], [(6, .box [.g (G.int 0), .g (G.int 0)]), (9, .box [.g (G.int 0), .g (G.int 0)])])) (fun g => r3.drop g.1 = g.2 ∧ s1054_l1 a0 a1 a2 g.2 g.1 = some R) (fun g => List.length g.2) ⟨rfl, (0, r3), ⟨rfl, rfl, rfl, rfl, rfl, rfl, rfl, rfl, trivial⟩, ⟨rfl, rfl, trivial⟩, rfl, ⟨rfl, (by exact hR)⟩, trivial⟩ ?_
   ·rintro ⟨k5, t7⟩ ⟨hd, hR⟩;replace hd : r3.drop k5 = t7 := hd;replace hR : s1054_l1 a0 a1 a2 t7 k5 = some R := hR;refine aw_seq ?_;refine aw_region [.p] ?_;refine st rfl rfl (eff_lss rfl rfl rfl) rfl ?_;refine st_nil ?_;refine len_sl (f := cInt) (l := r3) 23 rfl fun hlz1 => ?_;refine aw_seq ?_;refine aw_cond _ rfl (fun h2 => ?_) (fun h2 => ?_)
    ·replace h2 : (decide (((k5 : Nat) : Int) < (List.length r3 : Int))) = true := h2;obtain ⟨y6, t7, rfl, hx1, hd⟩ := drop_cons hd (decT h2);replace h2 := decT h2;rw [s1054_l1] at hR;(try dsimp only at hR);refine aw_skip ?_;refine aw_seq ?_;refine aw_block ?_;refine aw_seq ?_;refine aw_region [.p, .p, .p] ?_;refine st rfl rfl (eff_ix (f := cInt) (l := r3) (a := y6) rfl Tryz.underlying51 ty3 rfl rfl (Int.natCast_nonneg _) hx1) rfl ?_;refine st rfl rfl (eff_load rfl ty3 rfl) rfl ?_;refine st rfl rfl (eff_assigng rfl rfl) rfl ?_;refine st_nil ?_;refine aw_seq ?_;refine aw_region [.p] ?_;refine st rfl rfl (eff_moveg rfl rfl) rfl ?_;refine st_nil ?_;refine aw_block ?_;refine aw_loop_g (γ := Nat × Int) (fun g => ([(0, .g (G.sl 3 (List.map S1122.c a0))), (1, .g (G.sl 5 (List.map S1124.c a1))), (2, .g (G.int a2)), (6, .ptr 6 0), (9, .ptr 9 0), (11, .g (G.int y6)), (23, .g (G.sl 1 (List.map cInt r3))), (24, .g (G.int (List.length r3 : Int))), (25, .g (G.int ((k5 : Nat) : Int))), (29, .g (G.int g.2))], [(6, .box [.g (G.int 0), .g (G.int 0)]), (9, .box [.g (G.int 0), .g (G.int 0)])])) (fun g => g.1 = ((9 : Int) - g.2).toNat ∧ 0 ≤ g.2 ∧ s1054_l2 (fun k_ => s1054_l1 a0 a1 a2 t7 k_) a0 a1 a2 k5 y6 g.1 g.2 = some R) (fun g => g.1) ⟨rfl, (((9 : Int) - 0).toNat, 0), ⟨rfl, rfl, rfl, rfl, rfl, rfl, rfl, rfl, rfl, rfl, trivial⟩, ⟨rfl, rfl, trivial⟩, rfl, ⟨rfl, (by first | omega | (dsimp only; omega) | simp), (by exact hR)⟩, trivial⟩ ?_
     ·rintro ⟨k10, x8⟩ ⟨hk2, iv2_0, hR⟩;replace hk2 : k10 = ((9 : Int) - x8).toNat := hk2;replace hR : s1054_l2 (fun k_ => s1054_l1 a0 a1 a2 t7 k_) a0 a1 a2 k5 y6 k10 x8 = some R := hR;replace iv2_0 : 0 ≤ x8 := iv2_0;refine aw_seq ?_;refine aw_region [.p] ?_;refine st rfl rfl (eff_lss rfl rfl rfl) rfl ?_;refine st_nil ?_;refine aw_seq ?_;refine aw_cond _ rfl (fun h4 => ?_) (fun h4 => ?_)
      ·replace h4 : (decide (x8 < 9)) = true := h4;replace h4 := decT h4;obtain ⟨k10, rfl⟩ : ∃ m, k10 = m + 1 := ⟨k10 - 1, by omega⟩;rw [s1054_l2] at hR;(try dsimp only at hR);refine aw_skip ?_;refine aw_seq ?_;refine aw_block ?_;refine aw_seq ?_;refine aw_region [.p, .p] ?_;refine st rfl rfl (eff_moveg rfl rfl) rfl ?_;refine st rfl rfl (eff_assigng rfl rfl) rfl ?_;refine st_nil ?_;refine aw_seq ?_;refine aw_region [.p, .p, .p, .p, .w, .w] ?_;refine st rfl rfl (eff_moveg rfl rfl) rfl ?_;refine st rfl rfl (eff_moveg rfl rfl) rfl ?_;refine st rfl rfl (eff_sub rfl rfl rfl (by unfold I64; (try dsimp only); omega)) rfl ?_;refine st rfl rfl (eff_build rfl z1107 rfl pl1107 (pb_cons rfl (pb_cons rfl pb_nil)) rfl) rfl ?_;refine st_w rfl rfl (eff_alloc 13 rfl z1107 rfl rfl) rfl ?_;refine st_wn rfl rfl (eff_store (tv := .g (G.agg [G.int y6, G.int (9 - x8)])) rfl ty1107 rfl rfl rfl rfl rfl) ?_;refine st_nil ?_;refine aw_seq ?_;refine aw_region [.p, .p, .p, .r, .p] ?_;refine st rfl rfl (eff_moveg rfl rfl) rfl ?_;refine st rfl rfl (eff_moveg rfl rfl) rfl ?_;refine st rfl rfl (eff_moveg rfl rfl) rfl ?_;refine st_r rfl rfl (eff_loadOA rfl ty1107 rfl rfl rfl rfl) rfl ?_;refine st rfl rfl (eff_call rfl K1122 rfl (c1122 a0 a1 a2 (S1106.mk y6 (9 - x8))) (ag_cons rfl (ag_cons rfl (ag_cons rfl (ag_cons rfl ag_nil))))) rfl ?_;refine st_nil ?_;refine aw_cond _ rfl (fun h6 => ?_) (fun h6 => ?_)
       ·replace h6 : ((s1122 a0 a1 a2 (S1106.mk y6 (9 - x8)))) = true := h6;replace hR := condT hR h6;(try simp only [Bool.or_eq_true, Bool.and_eq_true, Bool.or_eq_false_iff, Bool.and_eq_false_iff, Bool.not_eq_true', Bool.not_eq_false', decide_eq_true_eq, decide_eq_false_iff_not] at h6);refine aw_seq ?_;refine aw_region [.r, .w] ?_;refine st_r rfl rfl (eff_loadOA rfl ty1107 rfl rfl rfl rfl) rfl ?_;refine st_wn rfl rfl (eff_store (tv := .g (G.agg [G.int y6, G.int (9 - x8)])) rfl ty1107 rfl rfl rfl rfl rfl) ?_;refine st_nil ?_;refine aw_exit ?_;exact ⟨rfl, (y6, 9 - x8), ⟨rfl, rfl, trivial⟩, ⟨rfl, rfl, trivial⟩, rfl, hR, trivial⟩
       ·replace h6 : ((s1122 a0 a1 a2 (S1106.mk y6 (9 - x8)))) = false := h6;replace hR := condF hR h6;(try simp only [Bool.or_eq_true, Bool.and_eq_true, Bool.or_eq_false_iff, Bool.and_eq_false_iff, Bool.not_eq_true', Bool.not_eq_false', decide_eq_true_eq, decide_eq_false_iff_not] at h6);refine aw_skip ?_;refine aw_region [.p, .p] ?_;refine st rfl rfl (eff_add rfl rfl rfl (by unfold I64; (try dsimp only); omega)) rfl ?_;refine st rfl rfl (eff_moveg rfl rfl) rfl ?_;refine st_nil ?_;exact ⟨rfl, (k10, x8 + 1), ⟨rfl, rfl, rfl, rfl, rfl, rfl, rfl, rfl, rfl, rfl, trivial⟩, ⟨rfl, rfl, trivial⟩, rfl, ⟨(by first | omega | (dsimp only; omega) | (simp at *; omega)), (by first | omega | (dsimp only; omega) | (simp at *; omega)), hR⟩, by simp⟩
      ·replace h4 : (decide (x8 < 9)) = false := h4;replace h4 := decF h4
       obtain rfl : k10 = 0 := by omega
       rw [s1054_l2] at hR;refine aw_exit ?_;refine aw_region [.p, .p] ?_;refine st rfl rfl (eff_add rfl rfl rfl (by unfold I64; omega)) rfl ?_;refine st rfl rfl (eff_moveg rfl rfl) rfl ?_;refine st_nil ?_;exact ⟨rfl, (k5 + 1, t7), ⟨rfl, rfl, rfl, rfl, rfl, rfl, rfl, rfl, trivial⟩, ⟨rfl, rfl, trivial⟩, rfl, ⟨hd, hR⟩, by simp⟩
    ·replace h2 : (decide (((k5 : Nat) : Int) < (List.length r3 : Int))) = false := h2;obtain rfl := drop_nil hd (decF h2);rw [s1054_l1] at hR;refine aw_exit ?_;exact ⟨rfl, (0, 0), ⟨rfl, rfl, trivial⟩, ⟨rfl, rfl, trivial⟩, rfl, hR, trivial⟩
  ·rintro ⟨x1, x2⟩ hR;replace hR : s1054_j1 x1 x2 = some R := hR;unfold s1054_j1 at hR;refine aw_seq ?_;refine aw_freeze (l := [(6, .ptr 6 0), (9, .g (G.ref [G.int x1, G.int x2]))]) (m := [(6, .box [.g (G.int 0), .g (G.int 0)])]) 9 rfl ⟨.inl ⟨rfl, rfl⟩, .inr (frz_box rfl), trivial⟩ ⟨rfl, trivial⟩ rfl rfl ?_;refine aw_draw [.p, .p, .p, .p, .p, .w, .p] (by kernel_rfl) ?_;refine st rfl rfl (eff_loadA rfl ty1107 rfl rfl rfl) rfl ?_;refine st rfl rfl (eff_loadA rfl ty1107 rfl rfl rfl) rfl ?_;refine st rfl rfl (eff_build rfl z1107 rfl pl1107 pb_nil rfl) rfl ?_;refine st rfl rfl (eff_aeql [.int .i64 x1, .int .i64 x2] [.int .i64 0, .int .i64 0] rfl flat1107 rfl rfl rfl rfl rfl) rfl ?_;refine st rfl rfl (eff_call rfl K1086 rfl (c1086 (eqAnd [decide (x1 = 0), decide (x2 = 0)]) 7) (ag_cons rfl (ag_cons rfl ag_nil))) rfl ?_;refine st_wn rfl rfl (eff_store (tv := .g (G.agg [G.int x1, G.int x2])) rfl ty1107 rfl rfl rfl rfl rfl) ?_;refine st rfl rfl (eff_assigng rfl rfl) rfl ?_;refine st_nil ?_;refine aw_ret ?_;obtain rfl := Option.some.inj hR;exact resN rfl ⟨rv_cell rfl rfl ty1107 rfl rfl, rv_g rfl, trivial⟩ (by simp)
def s1056_l2 (rec1 : Nat → (List Int) → Option ((Int × Int × Int × Int × Int × Int × Int × Int × Int) × Int)) (a0 : List S1124) (a1 : Int) (k5 : Nat) (y6 : Int) : Nat → Int → (List Int) → Option ((Int × Int × Int × Int × Int × Int × Int × Int × Int) × Int)
 | 0, x8, x9 => rec1 (k5 + 1) x9
 | k12 + 1, x8, x9 => bindO (ixO x9 x8) fun y13 => bindO (ixO x9 x8) fun y14 => s1056_l2 rec1 a0 a1 k5 y6 k12 (x8 + 1) (List.set x9 (Int.toNat x8) (max y13 (s1124 a0 a1 y6 (x8 + 1))))
def s1056_l1 (a0 : List S1124) (a1 : Int) : List Int → Nat → (List Int) → Option ((Int × Int × Int × Int × Int × Int × Int × Int × Int) × Int)
 | [], k5, x3 => some ((List.getD x3 0 0, List.getD x3 1 0, List.getD x3 2 0, List.getD x3 3 0, List.getD x3 4 0, List.getD x3 5 0, List.getD x3 6 0, List.getD x3 7 0, List.getD x3 8 0), 0)
 | y6 :: t7, k5, x3 => s1056_l2 (fun k_ z0_ => s1056_l1 a0 a1 t7 k_ z0_) a0 a1 k5 y6 (((9 : Int) - 0).toNat) 0 x3
def s1056 (a0 : List S1124) (a1 : Int) : Option ((Int × Int × Int × Int × Int × Int × Int × Int × Int) × Int) :=
 (bif decide ((s1085 [(s1025 a0), (s1123 a1)]) ≠ 0) then some ((List.getD (List.replicate 9 0) 0 0, List.getD (List.replicate 9 0) 1 0, List.getD (List.replicate 9 0) 2 0, List.getD (List.replicate 9 0) 3 0, List.getD (List.replicate 9 0) 4 0, List.getD (List.replicate 9 0) 5 0, List.getD (List.replicate 9 0) 6 0, List.getD (List.replicate 9 0) 7 0, List.getD (List.replicate 9 0) 8 0), (s1085 [(s1025 a0), (s1123 a1)])) else bindO (s1121 a0) fun r1 => s1056_l1 a0 a1 r1 0 (List.replicate 9 0))
theorem c1056 (a0 : List S1124) (a1 : Int) {R : (Int × Int × Int × Int × Int × Int × Int × Int × Int) × Int}  (hb : ¬ s1085 [(s1025 a0), (s1123 a1)] ≠ 0 → a0.length ≤ 12) (hR : s1056 a0 a1 = some R) : Con (EG glT) 56 [G.sl 5 (List.map S1124.c a0), G.int a1] (G.tup [G.agg [G.int R.1.1, G.int R.1.2.1, G.int R.1.2.2.1, G.int R.1.2.2.2.1, G.int R.1.2.2.2.2.1, G.int R.1.2.2.2.2.2.1, G.int R.1.2.2.2.2.2.2.1, G.int R.1.2.2.2.2.2.2.2.1, G.int R.1.2.2.2.2.2.2.2.2], G.int R.2]) := by
 unfold s1056 at hR;refine con_of_aw Tryz.func56 rfl rfl fun w0 M0 => ?_;refine len_sl (f := S1124.c) (l := a0) 0 rfl fun hla0 => ?_;refine aw_seq ?_;refine aw_region [.w, .p] ?_;refine st_w rfl rfl (eff_alloc 4 rfl z1111 rfl rfl) rfl ?_;refine st rfl rfl (eff_assigng rfl rfl) rfl ?_;refine st_nil ?_;refine aw_seq ?_;refine aw_region [.w] ?_;refine st_w rfl rfl (eff_allocV (N := 9) (c := [G.int 0]) 6 rfl z1111 rfl (by decide) rfl rfl rfl) rfl ?_;refine st_nil ?_;refine aw_seq ?_;refine aw_seq ?_;refine aw_region [.p, .p, .p, .p, .p, .p, .p] ?_;refine st rfl rfl (eff_moveg rfl rfl) rfl ?_;refine st rfl rfl (eff_call rfl K1025 rfl (c1025 a0) (ag_cons rfl ag_nil)) rfl ?_;refine st rfl rfl (eff_moveg rfl rfl) rfl ?_;refine st rfl rfl (eff_call rfl K1123 rfl (c1123 a1) (ag_cons rfl ag_nil)) rfl ?_;refine st rfl rfl (eff_buildSlice rfl Tryz.underlying222 ty37 z37 rfl (ps_cons rfl (ps_cons rfl ps_nil)) rfl (by simp []) (by decide)) rfl ?_;refine st rfl rfl (eff_call rfl K1085 rfl (c1085 [(s1025 a0), (s1123 a1)]) (ag_cons rfl ag_nil)) rfl ?_;refine st rfl rfl (eff_assigng rfl rfl) rfl ?_;refine st_nil ?_;refine aw_seq ?_;refine aw_region [.p, .p] ?_;refine st rfl rfl (eff_moveg rfl rfl) rfl ?_;refine st rfl rfl (eff_neq rfl rfl rfl) rfl ?_;refine st_nil ?_;refine aw_cond _ rfl (fun h1 => ?_) (fun h1 => ?_)
 ·replace h1 : (decide ((s1085 [(s1025 a0), (s1123 a1)]) ≠ 0)) = true := h1;replace hR := condT hR h1;(try simp only [Bool.or_eq_true, Bool.and_eq_true, Bool.or_eq_false_iff, Bool.and_eq_false_iff, Bool.not_eq_true', Bool.not_eq_false', decide_eq_true_eq, decide_eq_false_iff_not] at h1);refine aw_seq ?_;refine aw_region [.r, .p, .w, .p] ?_;refine st_r rfl rfl (eff_loadVI (l := List.replicate 9 0) rfl ty1111 rfl rfl List.length_replicate (flatI9 List.length_replicate)) rfl ?_;refine st rfl rfl (eff_moveg rfl rfl) rfl ?_;refine st_wn rfl rfl (eff_store (tv := .g (G.agg [G.int (List.getD (List.replicate 9 0) 0 0), G.int (List.getD (List.replicate 9 0) 1 0), G.int (List.getD (List.replicate 9 0) 2 0), G.int (List.getD (List.replicate 9 0) 3 0), G.int (List.getD (List.replicate 9 0) 4 0), G.int (List.getD (List.replicate 9 0) 5 0), G.int (List.getD (List.replicate 9 0) 6 0), G.int (List.getD (List.replicate 9 0) 7 0), G.int (List.getD (List.replicate 9 0) 8 0)])) rfl ty1111 rfl rfl rfl rfl rfl) ?_;refine st rfl rfl (eff_assigng rfl rfl) rfl ?_;refine st_nil ?_;refine aw_ret ?_;obtain rfl := Option.some.inj hR;exact resN rfl ⟨rv_cell rfl rfl ty1111 rfl rfl, rv_g rfl, trivial⟩ (by simp)
 ·replace h1 : (decide ((s1085 [(s1025 a0), (s1123 a1)]) ≠ 0)) = false := h1;replace hR := condF hR h1;(try simp only [Bool.or_eq_true, Bool.and_eq_true, Bool.or_eq_false_iff, Bool.and_eq_false_iff, Bool.not_eq_true', Bool.not_eq_false', decide_eq_true_eq, decide_eq_false_iff_not] at h1);have hb1 := hb h1;refine aw_skip ?_;refine aw_seq ?_;refine aw_seq ?_;obtain ⟨r1, br1, hR⟩ := bindO_inv hR;refine aw_region [.p, .p, .p, .p] ?_;refine st rfl rfl (eff_moveg rfl rfl) rfl ?_;refine st rfl rfl (eff_call rfl K1121 rfl (c1121 a0 (by first | assumption | omega | (simp [copyL_len]; done) | (simp [copyL_len]; omega)) br1) (ag_cons rfl ag_nil)) rfl ?_;refine st rfl rfl (eff_lenM (f := cInt) (l := r1) rfl Tryz.underlying51 rfl) rfl ?_;refine st rfl rfl (eff_moveg rfl rfl) rfl ?_;refine st_nil ?_;refine aw_block ?_;refine aw_loop_g (γ := Nat × (List Int) × (List Int)) (fun g => ([(0, .g (G.sl 5 (List.map S1124.c a0))), (1, .g (G.int a1)), (4, .ptr 4 0), (6, .eptr 6 1 0 0), (22, .g (G.sl 1 (List.map cInt r1))), (23, .g (G.int (List.length r1 : Int))), (24, .g (G.int ((g.1 : Nat) : Int)))], [(4, .box [.g (G.int 0), .g (G.int 0), .g (G.int 0), .g (G.int 0), .g (G.int 0), .g (G.int 0), .g (G.int 0), .g (G.int 0), .g (G.int 0)]), (6, .arr 111 1 (List.map cInt g.2.2))])) (fun g => List.length g.2.2 = 9 ∧ r1.drop g.1 = g.2.1 ∧ s1056_l1 a0 a1 g.2.1 g.1 g.2.2 = some R) (fun g => List.length g.2.1) ⟨rfl, (0, r1, List.replicate 9 0), ⟨rfl, rfl, rfl, rfl, rfl, rfl, rfl, trivial⟩, ⟨rfl, rfl, trivial⟩, rfl, ⟨List.length_replicate, rfl, (by exact hR)⟩, trivial⟩ ?_
  ·rintro ⟨k5, t7, x3⟩ ⟨ln4, hd, hR⟩;replace hd : r1.drop k5 = t7 := hd;replace hR : s1056_l1 a0 a1 t7 k5 x3 = some R := hR;replace ln4 : List.length x3 = 9 := ln4;refine aw_seq ?_;refine aw_region [.p] ?_;refine st rfl rfl (eff_lss rfl rfl rfl) rfl ?_;refine st_nil ?_;refine len_sl (f := cInt) (l := r1) 22 rfl fun hlz1 => ?_;refine aw_seq ?_;refine aw_cond _ rfl (fun h2 => ?_) (fun h2 => ?_)
   ·replace h2 : (decide (((k5 : Nat) : Int) < (List.length r1 : Int))) = true := h2;obtain ⟨y6, t7, rfl, hx1, hd⟩ := drop_cons hd (decT h2);replace h2 := decT h2;rw [s1056_l1] at hR;(try dsimp only at hR);refine aw_skip ?_;refine aw_seq ?_;refine aw_block ?_;refine aw_seq ?_;refine aw_region [.p, .p, .p] ?_;refine st rfl rfl (eff_ix (f := cInt) (l := r1) (a := y6) rfl Tryz.underlying51 ty3 rfl rfl (Int.natCast_nonneg _) hx1) rfl ?_;refine st rfl rfl (eff_load rfl ty3 rfl) rfl ?_;refine st rfl rfl (eff_assigng rfl rfl) rfl ?_;refine st_nil ?_;refine aw_seq ?_;refine aw_region [.p] ?_;refine st rfl rfl (eff_moveg rfl rfl) rfl ?_;refine st_nil ?_;refine aw_block ?_;refine aw_loop_g (γ := Nat × Int × (List Int)) (fun g => ([(0, .g (G.sl 5 (List.map S1124.c a0))), (1, .g (G.int a1)), (4, .ptr 4 0), (6, .eptr 6 1 0 0), (9, .g (G.int y6)), (22, .g (G.sl 1 (List.map cInt r1))), (23, .g (G.int (List.length r1 : Int))), (24, .g (G.int ((k5 : Nat) : Int))), (28, .g (G.int g.2.1))], [(4, .box [.g (G.int 0), .g (G.int 0), .g (G.int 0), .g (G.int 0), .g (G.int 0), .g (G.int 0), .g (G.int 0), .g (G.int 0), .g (G.int 0)]), (6, .arr 111 1 (List.map cInt g.2.2))])) (fun g => g.1 = ((9 : Int) - g.2.1).toNat ∧ 0 ≤ g.2.1 ∧ List.length g.2.2 = 9 ∧ s1056_l2 (fun k_ z0_ => s1056_l1 a0 a1 t7 k_ z0_) a0 a1 k5 y6 g.1 g.2.1 g.2.2 = some R) (fun g => g.1) ⟨rfl, (((9 : Int) - 0).toNat, 0, x3), ⟨rfl, rfl, rfl, rfl, rfl, rfl, rfl, rfl, rfl, trivial⟩, ⟨rfl, rfl, trivial⟩, rfl, ⟨rfl, (by first | omega | (dsimp only; omega) | simp), ln4, (by exact hR)⟩, trivial⟩ ?_
    ·rintro ⟨k12, x8, x9⟩ ⟨hk2, iv2_0, ln10, hR⟩;replace hk2 : k12 = ((9 : Int) - x8).toNat := hk2;replace hR : s1056_l2 (fun k_ z0_ => s1056_l1 a0 a1 t7 k_ z0_) a0 a1 k5 y6 k12 x8 x9 = some R := hR;replace iv2_0 : 0 ≤ x8 := iv2_0;replace ln10 : List.length x9 = 9 := ln10;refine aw_seq ?_;refine aw_region [.p] ?_;refine st rfl rfl (eff_lss rfl rfl rfl) rfl ?_;refine st_nil ?_;refine aw_seq ?_;refine aw_cond _ rfl (fun h4 => ?_) (fun h4 => ?_)
     ·replace h4 : (decide (x8 < 9)) = true := h4;replace h4 := decT h4;obtain ⟨k12, rfl⟩ : ∃ m, k12 = m + 1 := ⟨k12 - 1, by omega⟩;rw [s1056_l2] at hR;(try dsimp only at hR);refine aw_skip ?_;refine aw_seq ?_;refine aw_block ?_;refine aw_seq ?_;refine aw_region [.p, .p] ?_;refine st rfl rfl (eff_moveg rfl rfl) rfl ?_;refine st rfl rfl (eff_assigng rfl rfl) rfl ?_;refine st_nil ?_;obtain ⟨y13, by13, hR⟩ := bindO_inv hR;obtain ⟨y14, by14, hR⟩ := bindO_inv hR;refine aw_draw [.p, .p, .p, .r, .p, .p, .p, .p, .p, .p, .p, .p, .w] (by kernel_rfl) ?_;refine st rfl rfl (eff_moveg rfl rfl) rfl ?_;refine st rfl rfl (eff_moveg rfl rfl) rfl ?_;refine st rfl rfl (eff_indexV rfl Tryz.underlying111 ty3 rfl rfl (ixO_nn by13) (Nat.lt_of_lt_of_eq (get_lt (ixO_get by13)) ln10)) rfl ?_;refine st_r rfl rfl (eff_ldE (f := cInt) (l := x9) (a := y13) rfl ty3 rfl rfl (ixO_get by13) rfl) rfl ?_;refine st rfl rfl (eff_moveg rfl rfl) rfl ?_;refine st rfl rfl (eff_moveg rfl rfl) rfl ?_;refine st rfl rfl (eff_moveg rfl rfl) rfl ?_;refine st rfl rfl (eff_moveg rfl rfl) rfl ?_;refine st rfl rfl (eff_add rfl rfl rfl (by unfold I64; (try dsimp only); omega)) rfl ?_;refine st rfl rfl (eff_call rfl K1124 rfl (c1124 a0 a1 y6 (x8 + 1)) (ag_cons rfl (ag_cons rfl (ag_cons rfl (ag_cons rfl ag_nil))))) rfl ?_;refine st rfl rfl (eff_max rfl rfl rfl) rfl ?_;refine st rfl rfl (eff_indexV rfl Tryz.underlying111 ty3 rfl rfl (ixO_nn by14) (Nat.lt_of_lt_of_eq (get_lt (ixO_get by14)) ln10)) rfl ?_;refine st_wn rfl rfl (eff_setL (f := cInt) (l := x9) (a' := max y13 (s1124 a0 a1 y6 (x8 + 1))) rfl ty3 rfl rfl rfl (Nat.lt_of_lt_of_eq (Nat.lt_of_lt_of_eq (get_lt (ixO_get by14)) ln10) (Eq.symm ln10)) rfl (fun _ => rfl)) ?_;refine st_nil ?_;refine aw_region [.p, .p] ?_;refine st rfl rfl (eff_add rfl rfl rfl (by unfold I64; (try dsimp only); omega)) rfl ?_;refine st rfl rfl (eff_moveg rfl rfl) rfl ?_;refine st_nil ?_;exact ⟨rfl, (k12, x8 + 1, List.set x9 (Int.toNat x8) (max y13 (s1124 a0 a1 y6 (x8 + 1)))), ⟨rfl, rfl, rfl, rfl, rfl, rfl, rfl, rfl, rfl, trivial⟩, ⟨rfl, rfl, trivial⟩, rfl, ⟨(by first | omega | (dsimp only; omega) | (simp at *; omega)), (by first | omega | (dsimp only; omega) | (simp at *; omega)), ((List.length_set ..).trans ln10), hR⟩, by simp⟩
     ·replace h4 : (decide (x8 < 9)) = false := h4;replace h4 := decF h4
      obtain rfl : k12 = 0 := by omega
      rw [s1056_l2] at hR;refine aw_exit ?_;refine aw_region [.p, .p] ?_;refine st rfl rfl (eff_add rfl rfl rfl (by unfold I64; omega)) rfl ?_;refine st rfl rfl (eff_moveg rfl rfl) rfl ?_;refine st_nil ?_;exact ⟨rfl, (k5 + 1, t7, x9), ⟨rfl, rfl, rfl, rfl, rfl, rfl, rfl, trivial⟩, ⟨rfl, rfl, trivial⟩, rfl, ⟨ln10, hd, hR⟩, by simp⟩
   ·replace h2 : (decide (((k5 : Nat) : Int) < (List.length r1 : Int))) = false := h2;obtain rfl := drop_nil hd (decF h2);rw [s1056_l1] at hR;refine aw_exit ?_;refine aw_seq ?_;refine aw_region [.r, .w, .p] ?_;refine st_r rfl rfl (eff_loadVI (l := x3) rfl ty1111 rfl rfl ln4 (flatI9 ln4)) rfl ?_;refine st_wn rfl rfl (eff_store (tv := .g (G.agg [G.int (List.getD x3 0 0), G.int (List.getD x3 1 0), G.int (List.getD x3 2 0), G.int (List.getD x3 3 0), G.int (List.getD x3 4 0), G.int (List.getD x3 5 0), G.int (List.getD x3 6 0), G.int (List.getD x3 7 0), G.int (List.getD x3 8 0)])) rfl ty1111 rfl rfl rfl rfl rfl) ?_;refine st rfl rfl (eff_assigng rfl rfl) rfl ?_;refine st_nil ?_;refine aw_ret ?_;obtain rfl := Option.some.inj hR;exact resN rfl ⟨rv_cell rfl rfl ty1111 rfl rfl, rv_g rfl, trivial⟩ (by simp)
def s1059_l2 (rec1 : Int → (List Int) → Option (Int × Int × Int × Int × Int × Int × Int × Int × Int)) (a0 : List S1124) (a1 : Int) (x1 : Int) : List S1124 → Nat → (List Int) → Option (Int × Int × Int × Int × Int × Int × Int × Int × Int)
 | [], k9, x7 => rec1 (x1 + 1) x7
 | y10 :: t11, k9, x7 => bindO (ixO x7 x1) fun y12 => bindO (ixO x7 x1) fun y13 => s1059_l2 rec1 a0 a1 x1 t11 (k9 + 1) (List.set x7 (Int.toNat x1) (max y12 (s1125 a0 a1 y10.Start (x1 + 1))))
def s1059_l1 (a0 : List S1124) (a1 : Int) : Nat → Int → (List Int) → Option (Int × Int × Int × Int × Int × Int × Int × Int × Int)
 | 0, x1, x2 => some (List.getD x2 0 0, List.getD x2 1 0, List.getD x2 2 0, List.getD x2 3 0, List.getD x2 4 0, List.getD x2 5 0, List.getD x2 6 0, List.getD x2 7 0, List.getD x2 8 0)
 | k5 + 1, x1, x2 => s1059_l2 (fun z0_ z1_ => s1059_l1 a0 a1 k5 z0_ z1_) a0 a1 x1 a0 0 x2
def s1059 (a0 : List S1124) (a1 : Int) : Option (Int × Int × Int × Int × Int × Int × Int × Int × Int) :=
 s1059_l1 a0 a1 (((9 : Int) - 0).toNat) 0 (List.replicate 9 0)
theorem c1059 {g : List (Nat × List Value)} (a0 : List S1124) (a1 : Int) {R : Int × Int × Int × Int × Int × Int × Int × Int × Int}   (hR : s1059 a0 a1 = some R) : Con (EG g) 59 [G.sl 5 (List.map S1124.c a0), G.int a1] (G.agg [G.int R.1, G.int R.2.1, G.int R.2.2.1, G.int R.2.2.2.1, G.int R.2.2.2.2.1, G.int R.2.2.2.2.2.1, G.int R.2.2.2.2.2.2.1, G.int R.2.2.2.2.2.2.2.1, G.int R.2.2.2.2.2.2.2.2]) := by
 unfold s1059 at hR;refine con_of_aw Tryz.func59 rfl rfl fun w0 M0 => ?_;refine len_sl (f := S1124.c) (l := a0) 0 rfl fun hla0 => ?_;refine aw_seq ?_;refine aw_region [.w] ?_;refine st_w rfl rfl (eff_alloc 4 rfl z1111 rfl rfl) rfl ?_;refine st_nil ?_;refine aw_seq ?_;refine aw_region [.w] ?_;refine st_w rfl rfl (eff_allocV (N := 9) (c := [G.int 0]) 5 rfl z1111 rfl (by decide) rfl rfl rfl) rfl ?_;refine st_nil ?_;refine aw_seq ?_;refine aw_seq ?_;refine aw_region [.p] ?_;refine st rfl rfl (eff_assigng rfl rfl) rfl ?_;refine st_nil ?_;refine aw_block ?_;refine aw_loop_g (γ := Nat × Int × (List Int)) (fun g => ([(0, .g (G.sl 5 (List.map S1124.c a0))), (1, .g (G.int a1)), (4, .ptr 4 0), (5, .eptr 5 1 0 0), (6, .g (G.int g.2.1))], [(4, .box [.g (G.int 0), .g (G.int 0), .g (G.int 0), .g (G.int 0), .g (G.int 0), .g (G.int 0), .g (G.int 0), .g (G.int 0), .g (G.int 0)]), (5, .arr 111 1 (List.map cInt g.2.2))])) (fun g => g.1 = ((9 : Int) - g.2.1).toNat ∧ 0 ≤ g.2.1 ∧ List.length g.2.2 = 9 ∧ s1059_l1 a0 a1 g.1 g.2.1 g.2.2 = some R) (fun g => g.1) ⟨rfl, (((9 : Int) - 0).toNat, 0, List.replicate 9 0), ⟨rfl, rfl, rfl, rfl, rfl, trivial⟩, ⟨rfl, rfl, trivial⟩, rfl, ⟨rfl, (by first | omega | (dsimp only; omega) | simp), List.length_replicate, (by exact hR)⟩, trivial⟩ ?_
 ·rintro ⟨k5, x1, x2⟩ ⟨hk1, iv1_0, ln3, hR⟩;replace hk1 : k5 = ((9 : Int) - x1).toNat := hk1;replace hR : s1059_l1 a0 a1 k5 x1 x2 = some R := hR;replace iv1_0 : 0 ≤ x1 := iv1_0;replace ln3 : List.length x2 = 9 := ln3;refine aw_seq ?_;refine aw_seq ?_;refine aw_region [.p, .p] ?_;refine st rfl rfl (eff_moveg rfl rfl) rfl ?_;refine st rfl rfl (eff_lss rfl rfl rfl) rfl ?_;refine st_nil ?_;refine aw_cond _ rfl (fun h1 => ?_) (fun h1 => ?_)
  ·replace h1 : (decide (x1 < 9)) = true := h1;replace h1 := decT h1;obtain ⟨k5, rfl⟩ : ∃ m, k5 = m + 1 := ⟨k5 - 1, by omega⟩;rw [s1059_l1] at hR;(try dsimp only at hR);refine aw_skip ?_;refine aw_seq ?_;refine aw_block ?_;refine aw_seq ?_;refine aw_region [.p] ?_;refine st rfl rfl (eff_assigng rfl rfl) rfl ?_;refine st_nil ?_;refine aw_block ?_;refine aw_loop_g (γ := Nat × (List S1124) × (List Int)) (fun g => ([(0, .g (G.sl 5 (List.map S1124.c a0))), (1, .g (G.int a1)), (4, .ptr 4 0), (5, .eptr 5 1 0 0), (6, .g (G.int x1)), (7, .g (G.int ((g.1 : Nat) : Int)))], [(4, .box [.g (G.int 0), .g (G.int 0), .g (G.int 0), .g (G.int 0), .g (G.int 0), .g (G.int 0), .g (G.int 0), .g (G.int 0), .g (G.int 0)]), (5, .arr 111 1 (List.map cInt g.2.2))])) (fun g => List.length g.2.2 = 9 ∧ a0.drop g.1 = g.2.1 ∧ s1059_l2 (fun z0_ z1_ => s1059_l1 a0 a1 k5 z0_ z1_) a0 a1 x1 g.2.1 g.1 g.2.2 = some R) (fun g => List.length g.2.1) ⟨rfl, (0, a0, x2), ⟨rfl, rfl, rfl, rfl, rfl, rfl, trivial⟩, ⟨rfl, rfl, trivial⟩, rfl, ⟨ln3, rfl, (by exact hR)⟩, trivial⟩ ?_
   ·rintro ⟨k9, t11, x7⟩ ⟨ln8, hd, hR⟩;replace hd : a0.drop k9 = t11 := hd;replace hR : s1059_l2 (fun z0_ z1_ => s1059_l1 a0 a1 k5 z0_ z1_) a0 a1 x1 t11 k9 x7 = some R := hR;replace ln8 : List.length x7 = 9 := ln8;refine aw_seq ?_;refine aw_seq ?_;refine aw_region [.p, .p, .p, .p] ?_;refine st rfl rfl (eff_moveg rfl rfl) rfl ?_;refine st rfl rfl (eff_moveg rfl rfl) rfl ?_;refine st rfl rfl (eff_lenM (f := S1124.c) (l := a0) rfl Tryz.underlying33 rfl) rfl ?_;refine st rfl rfl (eff_lss rfl rfl rfl) rfl ?_;refine st_nil ?_;refine len_sl (f := S1124.c) (l := a0) 0 rfl fun hlz2 => ?_;refine aw_cond _ rfl (fun h3 => ?_) (fun h3 => ?_)
    ·replace h3 : (decide (((k9 : Nat) : Int) < (List.length a0 : Int))) = true := h3;obtain ⟨y10, t11, rfl, hx2, hd⟩ := drop_cons hd (decT h3);replace h3 := decT h3;rw [s1059_l2] at hR;(try dsimp only at hR);refine aw_skip ?_;refine aw_seq ?_;refine aw_block ?_;obtain ⟨y12, by12, hR⟩ := bindO_inv hR;obtain ⟨y13, by13, hR⟩ := bindO_inv hR;refine aw_draw [.p, .p, .p, .r, .p, .p, .p, .p, .p, .p, .p, .p, .p, .p, .p, .p, .w] (by kernel_rfl) ?_;refine st rfl rfl (eff_moveg rfl rfl) rfl ?_;refine st rfl rfl (eff_moveg rfl rfl) rfl ?_;refine st rfl rfl (eff_indexV rfl Tryz.underlying111 ty3 rfl rfl (ixO_nn by12) (Nat.lt_of_lt_of_eq (get_lt (ixO_get by12)) ln8)) rfl ?_;refine st_r rfl rfl (eff_ldE (f := cInt) (l := x7) (a := y12) rfl ty3 rfl rfl (ixO_get by12) rfl) rfl ?_;refine st rfl rfl (eff_moveg rfl rfl) rfl ?_;refine st rfl rfl (eff_moveg rfl rfl) rfl ?_;refine st rfl rfl (eff_moveg rfl rfl) rfl ?_;refine st rfl rfl (eff_moveg rfl rfl) rfl ?_;refine st rfl rfl (eff_ix (f := S1124.c) (l := a0) (a := y10) rfl Tryz.underlying33 ty1134 rfl rfl (Int.natCast_nonneg _) hx2) rfl ?_;refine st rfl rfl (eff_fieldAddr rfl fl1134_1 rfl) rfl ?_;refine st rfl rfl (eff_load rfl ty3 rfl) rfl ?_;refine st rfl rfl (eff_moveg rfl rfl) rfl ?_;refine st rfl rfl (eff_add rfl rfl rfl (by unfold I64; (try dsimp only); omega)) rfl ?_;refine st rfl rfl (eff_call rfl K1125 rfl (c1125 a0 a1 y10.Start (x1 + 1)) (ag_cons rfl (ag_cons rfl (ag_cons rfl (ag_cons rfl ag_nil))))) rfl ?_;refine st rfl rfl (eff_max rfl rfl rfl) rfl ?_;refine st rfl rfl (eff_indexV rfl Tryz.underlying111 ty3 rfl rfl (ixO_nn by13) (Nat.lt_of_lt_of_eq (get_lt (ixO_get by13)) ln8)) rfl ?_;refine st_wn rfl rfl (eff_setL (f := cInt) (l := x7) (a' := max y12 (s1125 a0 a1 y10.Start (x1 + 1))) rfl ty3 rfl rfl rfl (Nat.lt_of_lt_of_eq (Nat.lt_of_lt_of_eq (get_lt (ixO_get by13)) ln8) (Eq.symm ln8)) rfl (fun _ => rfl)) ?_;refine st_nil ?_;refine aw_region [.p, .p, .p] ?_;refine st rfl rfl (eff_moveg rfl rfl) rfl ?_;refine st rfl rfl (eff_add rfl rfl rfl (by (try dsimp only); unfold I64; omega)) rfl ?_;refine st rfl rfl (eff_assigng rfl rfl) rfl ?_;refine st_nil ?_;exact ⟨rfl, (k9 + 1, t11, List.set x7 (Int.toNat x1) (max y12 (s1125 a0 a1 y10.Start (x1 + 1)))), ⟨rfl, rfl, rfl, rfl, rfl, rfl, trivial⟩, ⟨rfl, rfl, trivial⟩, rfl, ⟨((List.length_set ..).trans ln8), hd, hR⟩, by simp⟩
    ·replace h3 : (decide (((k9 : Nat) : Int) < (List.length a0 : Int))) = false := h3;obtain rfl := drop_nil hd (decF h3);rw [s1059_l2] at hR;refine aw_exit ?_;refine aw_region [.p, .p, .p] ?_;refine st rfl rfl (eff_moveg rfl rfl) rfl ?_;refine st rfl rfl (eff_add rfl rfl rfl (by unfold I64; (try dsimp only); omega)) rfl ?_;refine st rfl rfl (eff_assigng rfl rfl) rfl ?_;refine st_nil ?_;exact ⟨rfl, (k5, x1 + 1, x7), ⟨rfl, rfl, rfl, rfl, rfl, trivial⟩, ⟨rfl, rfl, trivial⟩, rfl, ⟨(by first | omega | (dsimp only; omega) | (simp at *; omega)), (by first | omega | (dsimp only; omega) | (simp at *; omega)), ln8, hR⟩, by simp⟩
  ·replace h1 : (decide (x1 < 9)) = false := h1;replace h1 := decF h1
   obtain rfl : k5 = 0 := by omega
   rw [s1059_l1] at hR;refine aw_exit ?_;refine aw_seq ?_;refine aw_region [.r, .w] ?_;refine st_r rfl rfl (eff_loadVI (l := x2) rfl ty1111 rfl rfl ln3 (flatI9 ln3)) rfl ?_;refine st_wn rfl rfl (eff_store (tv := .g (G.agg [G.int (List.getD x2 0 0), G.int (List.getD x2 1 0), G.int (List.getD x2 2 0), G.int (List.getD x2 3 0), G.int (List.getD x2 4 0), G.int (List.getD x2 5 0), G.int (List.getD x2 6 0), G.int (List.getD x2 7 0), G.int (List.getD x2 8 0)])) rfl ty1111 rfl rfl rfl rfl rfl) ?_;refine st_nil ?_;refine aw_ret ?_;obtain rfl := Option.some.inj hR;exact res_c rfl (rv_cell rfl rfl ty1111 rfl rfl)
def s1060_j1 (rec2 : Bool → Int → Int → Int → S1106 × Bool) (x9 : Int) (x14 : Bool) (x15 : Int) (x16 : Int) : S1106 × Bool :=
 rec2 x14 (x9 + 1) x15 x16
def s1060_l2 (rec1 : Nat → Bool → Int → Int → S1106 × Bool) (a0 : List S1122) (a1 : List S1124) (a2 : Int) (k5 : Nat) (y6 : S1124) : Nat → Bool → Int → Int → Int → S1106 × Bool
 | 0, x8, x9, x10, x11 => rec1 (k5 + 1) x8 x10 x11
 | k13 + 1, x8, x9, x10, x11 => (bif (s1061 a0 a1 a2 (S1106.mk y6.Start x9)) && (((!x8) || (decide (y6.Start < x10))) || ((decide (y6.Start = x10)) && (decide (x11 < x9)))) then s1060_j1 (fun z0_ z1_ z2_ z3_ => s1060_l2 rec1 a0 a1 a2 k5 y6 k13 z0_ z1_ z2_ z3_) x9 true y6.Start x9 else s1060_j1 (fun z0_ z1_ z2_ z3_ => s1060_l2 rec1 a0 a1 a2 k5 y6 k13 z0_ z1_ z2_ z3_) x9 x8 x10 x11)
def s1060_l1 (a0 : List S1122) (a1 : List S1124) (a2 : Int) : List S1124 → Nat → Bool → Int → Int → S1106 × Bool
 | [], k5, x1, x3, x4 => ((S1106.mk x3 x4), x1)
 | y6 :: t7, k5, x1, x3, x4 => s1060_l2 (fun k_ z0_ z1_ z2_ => s1060_l1 a0 a1 a2 t7 k_ z0_ z1_ z2_) a0 a1 a2 k5 y6 ((((9 : Int) + 1) - 1).toNat) x1 1 x3 x4
def s1060 (a0 : List S1122) (a1 : List S1124) (a2 : Int) : S1106 × Bool :=
 s1060_l1 a0 a1 a2 a1 0 false 0 0
theorem c1060 {g : List (Nat × List Value)} (a0 : List S1122) (a1 : List S1124) (a2 : Int)    : Con (EG g) 60 [G.sl 3 (List.map S1122.c a0), G.sl 5 (List.map S1124.c a1), G.int a2] (G.tup [G.agg [G.int ((s1060 a0 a1 a2).1.Moment), G.int ((s1060 a0 a1 a2).1.Size)], G.bool ((s1060 a0 a1 a2).2)]) := by
 generalize hR : s1060 a0 a1 a2 = R;unfold s1060 at hR;refine con_of_aw Tryz.func60 rfl rfl fun w0 M0 => ?_;refine len_sl (f := S1122.c) (l := a0) 0 rfl fun hla0 => ?_;refine len_sl (f := S1124.c) (l := a1) 1 rfl fun hla1 => ?_;refine aw_seq ?_;refine aw_region [.w, .p] ?_;refine st_w rfl rfl (eff_alloc 6 rfl z1116 rfl rfl) rfl ?_;refine st rfl rfl (eff_assigng rfl rfl) rfl ?_;refine st_nil ?_;refine aw_seq ?_;refine aw_region [.w] ?_;refine st_w rfl rfl (eff_alloc 8 rfl z1116 rfl rfl) rfl ?_;refine st_nil ?_;refine aw_seq ?_;refine aw_region [.p] ?_;refine st rfl rfl (eff_assigng rfl rfl) rfl ?_;refine st_nil ?_;refine aw_seq ?_;refine aw_seq ?_;refine aw_region [.p] ?_;refine st rfl rfl (eff_assigng rfl rfl) rfl ?_;refine st_nil ?_;refine aw_block ?_;refine aw_loop_g (γ := Nat × (List S1124) × Bool × Int × Int) (fun g => ([(0, .g (G.sl 3 (List.map S1122.c a0))), (1, .g (G.sl 5 (List.map S1124.c a1))), (2, .g (G.int a2)), (6, .ptr 6 0), (8, .ptr 8 0), (9, .g (G.bool g.2.2.1)), (10, .g (G.int ((g.1 : Nat) : Int)))], [(6, .box [.g (G.int 0), .g (G.int 0)]), (8, .box [.g (G.int g.2.2.2.1), .g (G.int g.2.2.2.2)])])) (fun g => a1.drop g.1 = g.2.1 ∧ s1060_l1 a0 a1 a2 g.2.1 g.1 g.2.2.1 g.2.2.2.1 g.2.2.2.2 = R) (fun g => List.length g.2.1) ⟨rfl, (0, a1, false, 0, 0), ⟨rfl, rfl, rfl, rfl, rfl, rfl, rfl, trivial⟩, ⟨rfl, rfl, trivial⟩, rfl, ⟨rfl, (by exact hR)⟩, trivial⟩ ?_
 ·rintro ⟨k5, t7, x1, x3, x4⟩ ⟨hd, hR⟩;replace hd : a1.drop k5 = t7 := hd;replace hR : s1060_l1 a0 a1 a2 t7 k5 x1 x3 x4 = R := hR;refine aw_seq ?_;refine aw_seq ?_;refine aw_region [.p, .p, .p, .p] ?_;refine st rfl rfl (eff_moveg rfl rfl) rfl ?_;refine st rfl rfl (eff_moveg rfl rfl) rfl ?_;refine st rfl rfl (eff_lenM (f := S1124.c) (l := a1) rfl Tryz.underlying33 rfl) rfl ?_;refine st rfl rfl (eff_lss rfl rfl rfl) rfl ?_;refine st_nil ?_;refine len_sl (f := S1124.c) (l := a1) 1 rfl fun hlz1 => ?_;refine aw_cond _ rfl (fun h1 => ?_) (fun h1 => ?_)
  ·replace h1 : (decide (((k5 : Nat) : Int) < (List.length a1 : Int))) = true := h1;obtain ⟨y6, t7, rfl, hx1, hd⟩ := drop_cons hd (decT h1);replace h1 := decT h1;rw [s1060_l1] at hR;(try dsimp only at hR);refine aw_skip ?_;refine aw_seq ?_;refine aw_block ?_;refine aw_seq ?_;refine aw_region [.p] ?_;refine st rfl rfl (eff_assigng rfl rfl) rfl ?_;refine st_nil ?_;refine aw_block ?_;refine aw_loop_g (γ := Nat × Bool × Int × Int × Int) (fun g => ([(0, .g (G.sl 3 (List.map S1122.c a0))), (1, .g (G.sl 5 (List.map S1124.c a1))), (2, .g (G.int a2)), (6, .ptr 6 0), (8, .ptr 8 0), (9, .g (G.bool g.2.1)), (10, .g (G.int ((k5 : Nat) : Int))), (11, .g (G.int g.2.2.1))], [(6, .box [.g (G.int 0), .g (G.int 0)]), (8, .box [.g (G.int g.2.2.2.1), .g (G.int g.2.2.2.2)])])) (fun g => g.1 = (((9 : Int) + 1) - g.2.2.1).toNat ∧ 1 ≤ g.2.2.1 ∧ s1060_l2 (fun k_ z0_ z1_ z2_ => s1060_l1 a0 a1 a2 t7 k_ z0_ z1_ z2_) a0 a1 a2 k5 y6 g.1 g.2.1 g.2.2.1 g.2.2.2.1 g.2.2.2.2 = R) (fun g => g.1) ⟨rfl, ((((9 : Int) + 1) - 1).toNat, x1, 1, x3, x4), ⟨rfl, rfl, rfl, rfl, rfl, rfl, rfl, rfl, trivial⟩, ⟨rfl, rfl, trivial⟩, rfl, ⟨rfl, (by first | omega | (dsimp only; omega) | simp), (by exact hR)⟩, trivial⟩ ?_
   ·rintro ⟨k13, x8, x9, x10, x11⟩ ⟨hk2, iv2_0, hR⟩;replace hk2 : k13 = (((9 : Int) + 1) - x9).toNat := hk2;replace hR : s1060_l2 (fun k_ z0_ z1_ z2_ => s1060_l1 a0 a1 a2 t7 k_ z0_ z1_ z2_) a0 a1 a2 k5 y6 k13 x8 x9 x10 x11 = R := hR;replace iv2_0 : 1 ≤ x9 := iv2_0;refine aw_seq ?_;refine aw_seq ?_;refine aw_region [.p, .p] ?_;refine st rfl rfl (eff_moveg rfl rfl) rfl ?_;refine st rfl rfl (eff_leq rfl rfl rfl) rfl ?_;refine st_nil ?_;refine aw_cond _ rfl (fun h3 => ?_) (fun h3 => ?_)
    ·replace h3 : (decide (x9 ≤ 9)) = true := h3;replace h3 := decT h3;obtain ⟨k13, rfl⟩ : ∃ m, k13 = m + 1 := ⟨k13 - 1, by omega⟩;rw [s1060_l2] at hR;(try dsimp only at hR);refine aw_skip ?_;refine aw_cut_g (γ := Bool × Int × Int) (fun g => ([(0, .g (G.sl 3 (List.map S1122.c a0))), (1, .g (G.sl 5 (List.map S1124.c a1))), (2, .g (G.int a2)), (6, .ptr 6 0), (8, .ptr 8 0), (9, .g (G.bool g.1)), (10, .g (G.int ((k5 : Nat) : Int))), (11, .g (G.int x9))], [(6, .box [.g (G.int 0), .g (G.int 0)]), (8, .box [.g (G.int g.2.1), .g (G.int g.2.2)])])) (fun g => s1060_j1 (fun z0_ z1_ z2_ z3_ => s1060_l2 (fun k_ z0_ z1_ z2_ => s1060_l1 a0 a1 a2 t7 k_ z0_ z1_ z2_) a0 a1 a2 k5 y6 k13 z0_ z1_ z2_ z3_) x9 g.1 g.2.1 g.2.2 = R) ?_ ?_
     ·refine aw_block ?_;refine aw_seq ?_;refine aw_region [.p, .p, .p, .p, .p, .p, .p, .w, .w] ?_;refine st rfl rfl (eff_moveg rfl rfl) rfl ?_;refine st rfl rfl (eff_moveg rfl rfl) rfl ?_;refine st rfl rfl (eff_ix (f := S1124.c) (l := a1) (a := y6) rfl Tryz.underlying33 ty1134 rfl rfl (Int.natCast_nonneg _) hx1) rfl ?_;refine st rfl rfl (eff_fieldAddr rfl fl1134_1 rfl) rfl ?_;refine st rfl rfl (eff_load rfl ty3 rfl) rfl ?_;refine st rfl rfl (eff_moveg rfl rfl) rfl ?_;refine st rfl rfl (eff_build rfl z1116 rfl pl1116 (pb_cons rfl (pb_cons rfl pb_nil)) rfl) rfl ?_;refine st_w rfl rfl (eff_alloc 12 rfl z1116 rfl rfl) rfl ?_;refine st_wn rfl rfl (eff_store (tv := .g (G.agg [G.int y6.Start, G.int x9])) rfl ty1116 rfl rfl rfl rfl rfl) ?_;refine st_nil ?_;refine aw_seq ?_;refine aw_region [.p, .p, .p, .r, .p, .p, .p, .p, .p, .p, .r, .p, .r, .p, .p, .p, .p, .r, .p, .r, .p, .p, .p, .r, .p, .r, .p, .p, .p, .p] ?_;refine st rfl rfl (eff_moveg rfl rfl) rfl ?_;refine st rfl rfl (eff_moveg rfl rfl) rfl ?_;refine st rfl rfl (eff_moveg rfl rfl) rfl ?_;refine st_r rfl rfl (eff_loadOA rfl ty1116 rfl rfl rfl rfl) rfl ?_;refine st rfl rfl (eff_call rfl K1061 rfl (c1061 a0 a1 a2 (S1106.mk y6.Start x9)) (ag_cons rfl (ag_cons rfl (ag_cons rfl (ag_cons rfl ag_nil))))) rfl ?_;refine st rfl rfl (eff_moveg rfl rfl) rfl ?_;refine st_g rfl rfl rfl (gb_bool _ _) (fun h => eff_moveg rfl rfl) rfl ?_;refine st_g rfl rfl rfl (gb_bool _ _) (fun h => eff_not rfl (gd h rfl)) rfl ?_;refine st_g rfl rfl rfl (gb_bool _ _) (fun h => eff_moveg rfl (gd h rfl)) rfl ?_;refine st_g rfl rfl rfl (gb_if _ _ _) (fun h => eff_fieldO rfl fl1116_0 rfl) rfl ?_;refine st_gr rfl rfl rfl (gb_if _ _ _) (fun h => eff_loadO rfl ty3 (gd h rfl) rfl rfl) rfl ?_;refine st_g rfl rfl rfl (gb_if _ _ _) (fun h => eff_fieldO rfl fl1116_0 rfl) rfl ?_;refine st_gr rfl rfl rfl (gb_if _ _ _) (fun h => eff_loadO rfl ty3 (gd h rfl) rfl rfl) rfl ?_;refine st_g rfl rfl rfl (gb_if _ _ _) (fun h => eff_lss rfl (gd h rfl) (gd h rfl)) rfl ?_;refine st_g rfl rfl rfl (gb_bool _ _) (fun h => eff_or rfl (gd h rfl) rfl (gd2 h rfl)) rfl ?_;refine st_g rfl rfl rfl (gb_bool _ _) (fun h => eff_moveg rfl (gd h rfl)) rfl ?_;refine st_g rfl rfl rfl (gb_if _ _ _) (fun h => eff_fieldO rfl fl1116_0 rfl) rfl ?_;refine st_gr rfl rfl rfl (gb_if _ _ _) (fun h => eff_loadO rfl ty3 (gd h rfl) rfl rfl) rfl ?_;refine st_g rfl rfl rfl (gb_if _ _ _) (fun h => eff_fieldO rfl fl1116_0 rfl) rfl ?_;refine st_gr rfl rfl rfl (gb_if _ _ _) (fun h => eff_loadO rfl ty3 (gd h rfl) rfl rfl) rfl ?_;refine st_g rfl rfl rfl (gb_if _ _ _) (fun h => eff_eql rfl (gd h rfl) (gd h rfl)) rfl ?_;refine st_g rfl rfl rfl (gb_if _ _ _) (fun h => eff_moveg rfl (gd h rfl)) rfl ?_;refine st_g rfl rfl rfl (gb_if _ _ _) (fun h => eff_fieldO rfl fl1116_1 rfl) rfl ?_;refine st_gr rfl rfl rfl (gb_if _ _ _) (fun h => eff_loadO rfl ty3 (gd h rfl) rfl rfl) rfl ?_;refine st_g rfl rfl rfl (gb_if _ _ _) (fun h => eff_fieldO rfl fl1116_1 rfl) rfl ?_;refine st_gr rfl rfl rfl (gb_if _ _ _) (fun h => eff_loadO rfl ty3 (gd h rfl) rfl rfl) rfl ?_;refine st_g rfl rfl rfl (gb_if _ _ _) (fun h => eff_gtr rfl (gd h rfl) (gd h rfl)) rfl ?_;refine st_g rfl rfl rfl (gb_if _ _ _) (fun h => eff_and rfl (gd h rfl) rfl (gd2 h rfl)) rfl ?_;refine st_g rfl rfl rfl (gb_bool _ _) (fun h => eff_or rfl (gd h rfl) rfl (gd2 h rfl)) rfl ?_;refine st rfl rfl (eff_and rfl rfl rfl rfl) rfl ?_;refine st_nil ?_;refine aw_cond _ rfl (fun h5 => ?_) (fun h5 => ?_)
      ·replace h5 : ((s1061 a0 a1 a2 (S1106.mk y6.Start x9)) && (((!x8) || (decide (y6.Start < x10))) || ((decide (y6.Start = x10)) && (decide (x11 < x9))))) = true := h5;replace hR := condT hR h5;(try simp only [Bool.or_eq_true, Bool.and_eq_true, Bool.or_eq_false_iff, Bool.and_eq_false_iff, Bool.not_eq_true', Bool.not_eq_false', decide_eq_true_eq, decide_eq_false_iff_not] at h5);refine aw_region [.r, .w, .p] ?_;refine st_r rfl rfl (eff_loadOA rfl ty1116 rfl rfl rfl rfl) rfl ?_;refine st_wn rfl rfl (eff_store (tv := .g (G.agg [G.int y6.Start, G.int x9])) rfl ty1116 rfl rfl rfl rfl rfl) ?_;refine st rfl rfl (eff_assigng rfl rfl) rfl ?_;refine st_nil ?_;exact ⟨rfl, (true, y6.Start, x9), ⟨rfl, rfl, rfl, rfl, rfl, rfl, rfl, rfl, trivial⟩, ⟨rfl, rfl, trivial⟩, rfl, hR, trivial⟩
      ·replace h5 : ((s1061 a0 a1 a2 (S1106.mk y6.Start x9)) && (((!x8) || (decide (y6.Start < x10))) || ((decide (y6.Start = x10)) && (decide (x11 < x9))))) = false := h5;replace hR := condF hR h5;(try simp only [Bool.or_eq_true, Bool.and_eq_true, Bool.or_eq_false_iff, Bool.and_eq_false_iff, Bool.not_eq_true', Bool.not_eq_false', decide_eq_true_eq, decide_eq_false_iff_not] at h5);refine aw_skip ?_;exact ⟨rfl, (x8, x10, x11), ⟨rfl, rfl, rfl, rfl, rfl, rfl, rfl, rfl, trivial⟩, ⟨rfl, rfl, trivial⟩, rfl, hR, trivial⟩
     ·rintro ⟨x14, x15, x16⟩ hR;replace hR : s1060_j1 (fun z0_ z1_ z2_ z3_ => s1060_l2 (fun k_ z0_ z1_ z2_ => s1060_l1 a0 a1 a2 t7 k_ z0_ z1_ z2_) a0 a1 a2 k5 y6 k13 z0_ z1_ z2_ z3_) x9 x14 x15 x16 = R := hR;unfold s1060_j1 at hR;refine aw_region [.p, .p, .p] ?_;refine st rfl rfl (eff_moveg rfl rfl) rfl ?_;refine st rfl rfl (eff_add rfl rfl rfl (by (try dsimp only); unfold I64; omega)) rfl ?_;refine st rfl rfl (eff_assigng rfl rfl) rfl ?_;refine st_nil ?_;exact ⟨rfl, (k13, x14, x9 + 1, x15, x16), ⟨rfl, rfl, rfl, rfl, rfl, rfl, rfl, rfl, trivial⟩, ⟨rfl, rfl, trivial⟩, rfl, ⟨(by first | omega | (dsimp only; omega) | (simp at *; omega)), (by first | omega | (dsimp only; omega) | (simp at *; omega)), hR⟩, by simp⟩
    ·replace h3 : (decide (x9 ≤ 9)) = false := h3;replace h3 := decF h3
     obtain rfl : k13 = 0 := by omega
     rw [s1060_l2] at hR;refine aw_exit ?_;refine aw_region [.p, .p, .p] ?_;refine st rfl rfl (eff_moveg rfl rfl) rfl ?_;refine st rfl rfl (eff_add rfl rfl rfl (by unfold I64; omega)) rfl ?_;refine st rfl rfl (eff_assigng rfl rfl) rfl ?_;refine st_nil ?_;exact ⟨rfl, (k5 + 1, t7, x8, x10, x11), ⟨rfl, rfl, rfl, rfl, rfl, rfl, rfl, trivial⟩, ⟨rfl, rfl, trivial⟩, rfl, ⟨hd, hR⟩, by simp⟩
  ·replace h1 : (decide (((k5 : Nat) : Int) < (List.length a1 : Int))) = false := h1;obtain rfl := drop_nil hd (decF h1);rw [s1060_l1] at hR;refine aw_exit ?_;refine aw_seq ?_;refine aw_region [.r, .p, .w, .p] ?_;refine st_r rfl rfl (eff_loadOA rfl ty1116 rfl rfl rfl rfl) rfl ?_;refine st rfl rfl (eff_moveg rfl rfl) rfl ?_;refine st_wn rfl rfl (eff_store (tv := .g (G.agg [G.int x3, G.int x4])) rfl ty1116 rfl rfl rfl rfl rfl) ?_;refine st rfl rfl (eff_assigng rfl rfl) rfl ?_;refine st_nil ?_;refine aw_ret ?_;subst hR;exact resN rfl ⟨rv_cell rfl rfl ty1116 rfl rfl, rv_g rfl, trivial⟩ (by simp)
def s1057_l1 (a1 : List S1124) (a2 : Int) : List Int → Nat → (List Int) → Option ((List Int) × Int)
 | [], k5, x3 => some (x3, 0)
 | y6 :: t7, k5, x3 => bindO (ixO x3 y6) fun y8 => bindO (ixO a1 ((k5 : Nat) : Int)) fun y9 => bindO (ixO a1 ((k5 : Nat) : Int)) fun y10 => bindO (ixO x3 y6) fun y11 => s1057_l1 a1 a2 t7 (k5 + 1) (List.set x3 (Int.toNat y6) (IntKind.i64.wrap (y8 + (IntKind.i64.wrap ((IntKind.i64.wrap (y9.End + a2)) - y10.Start)))))
def s1057 (a0 : List S1122) (a1 : List S1124) (a2 : Int) (a3 : List Int) : Option ((List Int) × Int) :=
 bindO (s1033 a0 a1 a2 a3) fun r1 => (bif decide (r1 ≠ 0) then some ([], r1) else s1057_l1 a1 a2 a3 0 (List.replicate (List.length a0) 0))
theorem c1057 {g : List (Nat × List Value)} (a0 : List S1122) (a1 : List S1124) (a2 : Int) (a3 : List Int) {R : (List Int) × Int}  (hb : a0.length * 8 ≤ 140737488351232) (hR : s1057 a0 a1 a2 a3 = some R) : Con (EG g) 57 [G.sl 3 (List.map S1122.c a0), G.sl 5 (List.map S1124.c a1), G.int a2, G.sl 1 (List.map cInt a3)] (G.tup [G.sl 1 (List.map cInt R.1), G.int R.2]) := by
 unfold s1057 at hR;refine con_of_aw Tryz.func57 rfl rfl fun w0 M0 => ?_;refine len_sl (f := S1122.c) (l := a0) 0 rfl fun hla0 => ?_;refine len_sl (f := S1124.c) (l := a1) 1 rfl fun hla1 => ?_;refine len_sl (f := cInt) (l := a3) 3 rfl fun hla3 => ?_;refine aw_seq ?_;refine aw_region [.p, .p] ?_;refine st rfl rfl (eff_assigng rfl rfl) rfl ?_;refine st rfl rfl (eff_assigng rfl rfl) rfl ?_;refine st_nil ?_;refine aw_seq ?_;refine aw_seq ?_;obtain ⟨r1, br1, hR⟩ := bindO_inv hR;refine aw_region [.p, .p, .p, .p, .p, .p] ?_;refine st rfl rfl (eff_moveg rfl rfl) rfl ?_;refine st rfl rfl (eff_moveg rfl rfl) rfl ?_;refine st rfl rfl (eff_moveg rfl rfl) rfl ?_;refine st rfl rfl (eff_moveg rfl rfl) rfl ?_;refine st rfl rfl (eff_call rfl K1033 rfl (c1033 a0 a1 a2 a3 br1) (ag_cons rfl (ag_cons rfl (ag_cons rfl (ag_cons rfl ag_nil))))) rfl ?_;refine st rfl rfl (eff_assigng rfl rfl) rfl ?_;refine st_nil ?_;refine aw_seq ?_;refine aw_region [.p, .p] ?_;refine st rfl rfl (eff_moveg rfl rfl) rfl ?_;refine st rfl rfl (eff_neq rfl rfl rfl) rfl ?_;refine st_nil ?_;refine aw_cond _ rfl (fun h1 => ?_) (fun h1 => ?_)
 ·replace h1 : (decide (r1 ≠ 0)) = true := h1;replace hR := condT hR h1;(try simp only [Bool.or_eq_true, Bool.and_eq_true, Bool.or_eq_false_iff, Bool.and_eq_false_iff, Bool.not_eq_true', Bool.not_eq_false', decide_eq_true_eq, decide_eq_false_iff_not] at h1);refine aw_seq ?_;refine aw_region [.p, .p, .p] ?_;refine st rfl rfl (eff_moveg rfl rfl) rfl ?_;refine st rfl rfl (eff_assigng rfl rfl) rfl ?_;refine st rfl rfl (eff_assigng rfl rfl) rfl ?_;refine st_nil ?_;refine aw_ret ?_;obtain rfl := Option.some.inj hR;exact resN rfl ⟨rv_nilG rfl (nil_sl _), rv_g rfl, trivial⟩ (by simp)
 ·replace h1 : (decide (r1 ≠ 0)) = false := h1;replace hR := condF hR h1;(try simp only [Bool.or_eq_true, Bool.and_eq_true, Bool.or_eq_false_iff, Bool.and_eq_false_iff, Bool.not_eq_true', Bool.not_eq_false', decide_eq_true_eq, decide_eq_false_iff_not] at h1);refine aw_skip ?_;refine aw_seq ?_;refine aw_region [.p, .p, .w, .p] ?_;refine st rfl rfl (eff_moveg rfl rfl) rfl ?_;refine st rfl rfl (eff_lenM (f := S1122.c) (l := a0) rfl Tryz.underlying22 rfl) rfl ?_;refine st_w rfl rfl (eff_makeS (f := cInt) (z := 0) 24 rfl mk82 rfl rfl rfl (by first | exact Int.le_refl _ | omega) (by first | decide | omega) rfl rfl rfl) rfl ?_;refine st rfl rfl (eff_assignO rfl rfl) rfl ?_;refine st_nil ?_;refine aw_seq ?_;refine aw_seq ?_;refine aw_region [.p, .p, .p] ?_;refine st rfl rfl (eff_moveg rfl rfl) rfl ?_;refine st rfl rfl (eff_lenM (f := cInt) (l := a3) rfl Tryz.underlying51 rfl) rfl ?_;refine st rfl rfl (eff_moveg rfl rfl) rfl ?_;refine st_nil ?_;refine aw_block ?_;refine aw_loop_g (γ := Nat × (List Int) × (List Int)) (fun g => ([(1, .g (G.sl 5 (List.map S1124.c a1))), (2, .g (G.int a2)), (11, .osl 24 1 0 (List.length a0)), (25, .g (G.sl 1 (List.map cInt a3))), (26, .g (G.int (List.length a3 : Int))), (27, .g (G.int ((g.1 : Nat) : Int)))], [(24, .arr 3 1 (List.map cInt g.2.2))])) (fun g => List.length g.2.2 = List.length a0 ∧ a3.drop g.1 = g.2.1 ∧ s1057_l1 a1 a2 g.2.1 g.1 g.2.2 = some R) (fun g => List.length g.2.1) ⟨rfl, (0, a3, List.replicate (List.length a0) 0), ⟨rfl, rfl, rfl, rfl, rfl, rfl, trivial⟩, ⟨rfl, trivial⟩, rfl, ⟨List.length_replicate, rfl, (by exact hR)⟩, trivial⟩ ?_
  ·rintro ⟨k5, t7, x3⟩ ⟨ln4, hd, hR⟩;replace hd : a3.drop k5 = t7 := hd;replace hR : s1057_l1 a1 a2 t7 k5 x3 = some R := hR;replace ln4 : List.length x3 = List.length a0 := ln4;refine aw_seq ?_;refine aw_region [.p] ?_;refine st rfl rfl (eff_lss rfl rfl rfl) rfl ?_;refine st_nil ?_;refine len_sl (f := cInt) (l := a3) 25 rfl fun hlz1 => ?_;refine aw_seq ?_;refine aw_cond _ rfl (fun h2 => ?_) (fun h2 => ?_)
   ·replace h2 : (decide (((k5 : Nat) : Int) < (List.length a3 : Int))) = true := h2;obtain ⟨y6, t7, rfl, hx1, hd⟩ := drop_cons hd (decT h2);replace h2 := decT h2;rw [s1057_l1] at hR;(try dsimp only at hR);refine aw_skip ?_;refine aw_seq ?_;refine aw_block ?_;refine aw_seq ?_;refine aw_region [.p, .p, .p, .p, .p] ?_;refine st rfl rfl (eff_moveg rfl rfl) rfl ?_;refine st rfl rfl (eff_ix (f := cInt) (l := a3) (a := y6) rfl Tryz.underlying51 ty3 rfl rfl (Int.natCast_nonneg _) hx1) rfl ?_;refine st rfl rfl (eff_load rfl ty3 rfl) rfl ?_;refine st rfl rfl (eff_assigng rfl rfl) rfl ?_;refine st rfl rfl (eff_assigng rfl rfl) rfl ?_;refine st_nil ?_;obtain ⟨y8, by8, hR⟩ := bindO_inv hR;obtain ⟨y9, by9, hR⟩ := bindO_inv hR;obtain ⟨y10, by10, hR⟩ := bindO_inv hR;obtain ⟨y11, by11, hR⟩ := bindO_inv hR;refine aw_draw [.p, .p, .p, .r, .p, .p, .p, .p, .p, .p, .p, .p, .p, .p, .p, .p, .p, .p, .p, .w] (by kernel_rfl) ?_;refine st rfl rfl (eff_moveO rfl rfl) rfl ?_;refine st rfl rfl (eff_moveg rfl rfl) rfl ?_;refine st rfl rfl (eff_ixL rfl Tryz.underlying51 ty3 rfl rfl (ixO_nn by8) (Nat.lt_of_lt_of_eq (get_lt (ixO_get by8)) ln4)) rfl ?_;refine st_r rfl rfl (eff_ldE (f := cInt) (l := x3) (a := y8) rfl ty3 rfl rfl (ixO_get by8) rfl) rfl ?_;refine st rfl rfl (eff_moveg rfl rfl) rfl ?_;refine st rfl rfl (eff_moveg rfl rfl) rfl ?_;refine st rfl rfl (eff_ix (f := S1124.c) (l := a1) (a := y9) rfl Tryz.underlying23 ty1125 rfl rfl (ixO_nn by9) (ixO_get by9)) rfl ?_;refine st rfl rfl (eff_fieldAddr rfl fl1125_2 rfl) rfl ?_;refine st rfl rfl (eff_load rfl ty3 rfl) rfl ?_;refine st rfl rfl (eff_moveg rfl rfl) rfl ?_;refine st rfl rfl (eff_addw rfl rfl rfl) rfl ?_;refine st rfl rfl (eff_moveg rfl rfl) rfl ?_;refine st rfl rfl (eff_moveg rfl rfl) rfl ?_;refine st rfl rfl (eff_ix (f := S1124.c) (l := a1) (a := y10) rfl Tryz.underlying23 ty1125 rfl rfl (ixO_nn by10) (ixO_get by10)) rfl ?_;refine st rfl rfl (eff_fieldAddr rfl fl1125_1 rfl) rfl ?_;refine st rfl rfl (eff_load rfl ty3 rfl) rfl ?_;refine st rfl rfl (eff_subw rfl rfl rfl) rfl ?_;refine st rfl rfl (eff_addw rfl rfl rfl) rfl ?_;refine st rfl rfl (eff_ixL rfl Tryz.underlying51 ty3 rfl rfl (ixO_nn by11) (Nat.lt_of_lt_of_eq (get_lt (ixO_get by11)) ln4)) rfl ?_;refine st_wn rfl rfl (eff_setL (f := cInt) (l := x3) (a' := IntKind.i64.wrap (y8 + (IntKind.i64.wrap ((IntKind.i64.wrap (y9.End + a2)) - y10.Start)))) rfl ty3 rfl rfl rfl (Nat.lt_of_lt_of_eq (Nat.lt_of_lt_of_eq (get_lt (ixO_get by11)) ln4) (Eq.symm ln4)) rfl (fun _ => rfl)) ?_;refine st_nil ?_;refine aw_region [.p, .p] ?_;refine st rfl rfl (eff_add rfl rfl rfl (by unfold I64; omega)) rfl ?_;refine st rfl rfl (eff_moveg rfl rfl) rfl ?_;refine st_nil ?_;exact ⟨rfl, (k5 + 1, t7, List.set x3 (Int.toNat y6) (IntKind.i64.wrap (y8 + (IntKind.i64.wrap ((IntKind.i64.wrap (y9.End + a2)) - y10.Start))))), ⟨rfl, rfl, rfl, rfl, rfl, rfl, trivial⟩, ⟨rfl, trivial⟩, rfl, ⟨((List.length_set ..).trans ln4), hd, hR⟩, by simp⟩
   ·replace h2 : (decide (((k5 : Nat) : Int) < (List.length a3 : Int))) = false := h2;obtain rfl := drop_nil hd (decF h2);rw [s1057_l1] at hR;refine aw_exit ?_;refine aw_seq ?_;refine aw_region [.p, .p, .p] ?_;refine st rfl rfl (eff_moveO rfl rfl) rfl ?_;refine st rfl rfl (eff_assignO rfl rfl) rfl ?_;refine st rfl rfl (eff_assigng rfl rfl) rfl ?_;refine st_nil ?_;refine aw_ret ?_;obtain rfl := Option.some.inj hR;exact resN rfl ⟨rv_viewLN ln4 rfl rfl, rv_g rfl, trivial⟩ (by simp)
def s1062_j1 (rec2 : Nat → Int → Option (List Int)) (k8 : Nat) (x11 : Int) : Option (List Int) :=
 rec2 (k8 + 1) x11
def s1062_l2 (rec1 : Nat → (List Int) → Option (List Int)) (a2 : Int) (a3 : List Int) (x1 : List Int) (k3 : Nat) : List S1124 → Nat → Int → Option (List Int)
 | [], k8, x6 => rec1 (k3 + 1) (x1 ++ [x6])
 | y9 :: t10, k8, x6 => bindO (ixO a3 ((k8 : Nat) : Int)) fun y12 => (bif decide (y12 = ((k3 : Nat) : Int)) then s1062_j1 (fun k_ z0_ => s1062_l2 rec1 a2 a3 x1 k3 t10 k_ z0_) k8 (IntKind.i64.wrap ((IntKind.i64.wrap ((IntKind.i64.wrap (x6 + y9.End)) + a2)) - y9.Start)) else s1062_j1 (fun k_ z0_ => s1062_l2 rec1 a2 a3 x1 k3 t10 k_ z0_) k8 x6)
def s1062_l1 (a1 : List S1124) (a2 : Int) (a3 : List Int) : List S1122 → Nat → (List Int) → Option (List Int)
 | [], k3, x1 => some x1
 | y4 :: t5, k3, x1 => s1062_l2 (fun k_ z0_ => s1062_l1 a1 a2 a3 t5 k_ z0_) a2 a3 x1 k3 a1 0 0
def s1062 (a0 : List S1122) (a1 : List S1124) (a2 : Int) (a3 : List Int) : Option (List Int) :=
 s1062_l1 a1 a2 a3 a0 0 []
theorem c1062 {g : List (Nat × List Value)} (a0 : List S1122) (a1 : List S1124) (a2 : Int) (a3 : List Int) {R : List Int}  (hb : a0.length * 8 ≤ 140737488351232) (hR : s1062 a0 a1 a2 a3 = some R) : Con (EG g) 62 [G.sl 3 (List.map S1122.c a0), G.sl 5 (List.map S1124.c a1), G.int a2, G.sl 1 (List.map cInt a3)] (G.sl 1 (List.map cInt R)) := by
 unfold s1062 at hR;refine con_of_aw Tryz.func62 rfl rfl fun w0 M0 => ?_;refine len_sl (f := S1122.c) (l := a0) 0 rfl fun hla0 => ?_;refine len_sl (f := S1124.c) (l := a1) 1 rfl fun hla1 => ?_;refine len_sl (f := cInt) (l := a3) 3 rfl fun hla3 => ?_;refine aw_seq ?_;refine aw_region [.w] ?_;refine st_w rfl rfl (eff_nilL 8 3 1 rfl rfl rfl) rfl ?_;refine st_nil ?_;refine aw_seq ?_;refine aw_region [.w] ?_;refine st_w rfl rfl (eff_nilL 9 3 1 rfl rfl rfl) rfl ?_;refine st_nil ?_;refine aw_seq ?_;refine aw_seq ?_;refine aw_region [.p] ?_;refine st rfl rfl (eff_assigng rfl rfl) rfl ?_;refine st_nil ?_;refine aw_block ?_;refine aw_loop_g (γ := Nat × (List S1122) × (List Int)) (fun g => ([(0, .g (G.sl 3 (List.map S1122.c a0))), (1, .g (G.sl 5 (List.map S1124.c a1))), (2, .g (G.int a2)), (3, .g (G.sl 1 (List.map cInt a3))), (9, .osl 9 1 0 (List.length g.2.2)), (10, .g (G.int ((g.1 : Nat) : Int)))], [(9, .arr 3 1 (List.map cInt g.2.2))])) (fun g => g.2.2.length ≤ g.1 ∧ a0.drop g.1 = g.2.1 ∧ s1062_l1 a1 a2 a3 g.2.1 g.1 g.2.2 = some R) (fun g => List.length g.2.1) ⟨rfl, (0, a0, []), ⟨rfl, rfl, rfl, rfl, rfl, rfl, trivial⟩, ⟨rfl, trivial⟩, rfl, ⟨(by first | (simp; done) | (simp; omega)), rfl, (by exact hR)⟩, trivial⟩ ?_
 ·rintro ⟨k3, t5, x1⟩ ⟨iv1_0, hd, hR⟩;replace hd : a0.drop k3 = t5 := hd;replace hR : s1062_l1 a1 a2 a3 t5 k3 x1 = some R := hR;replace iv1_0 : x1.length ≤ k3 := iv1_0;refine aw_seq ?_;refine aw_seq ?_;refine aw_region [.p, .p, .p, .p] ?_;refine st rfl rfl (eff_moveg rfl rfl) rfl ?_;refine st rfl rfl (eff_moveg rfl rfl) rfl ?_;refine st rfl rfl (eff_lenM (f := S1122.c) (l := a0) rfl Tryz.underlying30 rfl) rfl ?_;refine st rfl rfl (eff_lss rfl rfl rfl) rfl ?_;refine st_nil ?_;refine len_sl (f := S1122.c) (l := a0) 0 rfl fun hlz1 => ?_;refine aw_cond _ rfl (fun h1 => ?_) (fun h1 => ?_)
  ·replace h1 : (decide (((k3 : Nat) : Int) < (List.length a0 : Int))) = true := h1;obtain ⟨y4, t5, rfl, hx1, hd⟩ := drop_cons hd (decT h1);replace h1 := decT h1;rw [s1062_l1] at hR;(try dsimp only at hR);refine aw_skip ?_;refine aw_seq ?_;refine aw_block ?_;refine aw_seq ?_;refine aw_region [.p] ?_;refine st rfl rfl (eff_assigng rfl rfl) rfl ?_;refine st_nil ?_;refine aw_seq ?_;refine aw_seq ?_;refine aw_region [.p] ?_;refine st rfl rfl (eff_assigng rfl rfl) rfl ?_;refine st_nil ?_;refine aw_block ?_;refine aw_loop_g (γ := Nat × (List S1124) × Int) (fun g => ([(0, .g (G.sl 3 (List.map S1122.c a0))), (1, .g (G.sl 5 (List.map S1124.c a1))), (2, .g (G.int a2)), (3, .g (G.sl 1 (List.map cInt a3))), (9, .osl 9 1 0 (List.length x1)), (10, .g (G.int ((k3 : Nat) : Int))), (11, .g (G.int g.2.2)), (12, .g (G.int ((g.1 : Nat) : Int)))], [(9, .arr 3 1 (List.map cInt x1))])) (fun g => a1.drop g.1 = g.2.1 ∧ s1062_l2 (fun k_ z0_ => s1062_l1 a1 a2 a3 t5 k_ z0_) a2 a3 x1 k3 g.2.1 g.1 g.2.2 = some R) (fun g => List.length g.2.1) ⟨rfl, (0, a1, 0), ⟨rfl, rfl, rfl, rfl, rfl, rfl, rfl, rfl, trivial⟩, ⟨rfl, trivial⟩, rfl, ⟨rfl, (by exact hR)⟩, trivial⟩ ?_
   ·rintro ⟨k8, t10, x6⟩ ⟨hd2, hR⟩;replace hd2 : a1.drop k8 = t10 := hd2;replace hR : s1062_l2 (fun k_ z0_ => s1062_l1 a1 a2 a3 t5 k_ z0_) a2 a3 x1 k3 t10 k8 x6 = some R := hR;refine aw_seq ?_;refine aw_seq ?_;refine aw_region [.p, .p, .p, .p] ?_;refine st rfl rfl (eff_moveg rfl rfl) rfl ?_;refine st rfl rfl (eff_moveg rfl rfl) rfl ?_;refine st rfl rfl (eff_lenM (f := S1124.c) (l := a1) rfl Tryz.underlying33 rfl) rfl ?_;refine st rfl rfl (eff_lss rfl rfl rfl) rfl ?_;refine st_nil ?_;refine len_sl (f := S1124.c) (l := a1) 1 rfl fun hlz2 => ?_;refine aw_cond _ rfl (fun h3 => ?_) (fun h3 => ?_)
    ·replace h3 : (decide (((k8 : Nat) : Int) < (List.length a1 : Int))) = true := h3;obtain ⟨y9, t10, rfl, hx2, hd2⟩ := drop_cons hd2 (decT h3);replace h3 := decT h3;rw [s1062_l2] at hR;(try dsimp only at hR);refine aw_skip ?_;refine aw_cut_g (γ := Int) (fun g => ([(0, .g (G.sl 3 (List.map S1122.c a0))), (1, .g (G.sl 5 (List.map S1124.c a1))), (2, .g (G.int a2)), (3, .g (G.sl 1 (List.map cInt a3))), (9, .osl 9 1 0 (List.length x1)), (10, .g (G.int ((k3 : Nat) : Int))), (11, .g (G.int g)), (12, .g (G.int ((k8 : Nat) : Int)))], [(9, .arr 3 1 (List.map cInt x1))])) (fun g => s1062_j1 (fun k_ z0_ => s1062_l2 (fun k_ z0_ => s1062_l1 a1 a2 a3 t5 k_ z0_) a2 a3 x1 k3 t10 k_ z0_) k8 g = some R) ?_ ?_
     ·refine aw_block ?_;refine aw_seq ?_;obtain ⟨y12, by12, hR⟩ := bindO_inv hR;refine aw_region [.p, .p, .p, .p, .p, .p] ?_;refine st rfl rfl (eff_moveg rfl rfl) rfl ?_;refine st rfl rfl (eff_moveg rfl rfl) rfl ?_;refine st rfl rfl (eff_ix (f := cInt) (l := a3) (a := y12) rfl Tryz.underlying51 ty3 rfl rfl (ixO_nn by12) (ixO_get by12)) rfl ?_;refine st rfl rfl (eff_load rfl ty3 rfl) rfl ?_;refine st rfl rfl (eff_moveg rfl rfl) rfl ?_;refine st rfl rfl (eff_eql rfl rfl rfl) rfl ?_;refine st_nil ?_;refine aw_cond _ rfl (fun h5 => ?_) (fun h5 => ?_)
      ·replace h5 : (decide (y12 = ((k3 : Nat) : Int))) = true := h5;replace hR := condT hR h5;(try simp only [Bool.or_eq_true, Bool.and_eq_true, Bool.or_eq_false_iff, Bool.and_eq_false_iff, Bool.not_eq_true', Bool.not_eq_false', decide_eq_true_eq, decide_eq_false_iff_not] at h5);refine aw_draw [.p, .p, .p, .p, .p, .p, .p, .p, .p, .p, .p, .p, .p, .p, .p, .p] (by kernel_rfl) ?_;refine st rfl rfl (eff_moveg rfl rfl) rfl ?_;refine st rfl rfl (eff_moveg rfl rfl) rfl ?_;refine st rfl rfl (eff_moveg rfl rfl) rfl ?_;refine st rfl rfl (eff_ix (f := S1124.c) (l := a1) (a := y9) rfl Tryz.underlying33 ty1134 rfl rfl (Int.natCast_nonneg _) hx2) rfl ?_;refine st rfl rfl (eff_fieldAddr rfl fl1134_2 rfl) rfl ?_;refine st rfl rfl (eff_load rfl ty3 rfl) rfl ?_;refine st rfl rfl (eff_addw rfl rfl rfl) rfl ?_;refine st rfl rfl (eff_moveg rfl rfl) rfl ?_;refine st rfl rfl (eff_addw rfl rfl rfl) rfl ?_;refine st rfl rfl (eff_moveg rfl rfl) rfl ?_;refine st rfl rfl (eff_moveg rfl rfl) rfl ?_;refine st rfl rfl (eff_ix (f := S1124.c) (l := a1) (a := y9) rfl Tryz.underlying33 ty1134 rfl rfl (Int.natCast_nonneg _) hx2) rfl ?_;refine st rfl rfl (eff_fieldAddr rfl fl1134_1 rfl) rfl ?_;refine st rfl rfl (eff_load rfl ty3 rfl) rfl ?_;refine st rfl rfl (eff_subw rfl rfl rfl) rfl ?_;refine st rfl rfl (eff_assigng rfl rfl) rfl ?_;refine st_nil ?_;exact ⟨rfl, IntKind.i64.wrap ((IntKind.i64.wrap ((IntKind.i64.wrap (x6 + y9.End)) + a2)) - y9.Start), ⟨rfl, rfl, rfl, rfl, rfl, rfl, rfl, rfl, trivial⟩, ⟨rfl, trivial⟩, rfl, hR, trivial⟩
      ·replace h5 : (decide (y12 = ((k3 : Nat) : Int))) = false := h5;replace hR := condF hR h5;(try simp only [Bool.or_eq_true, Bool.and_eq_true, Bool.or_eq_false_iff, Bool.and_eq_false_iff, Bool.not_eq_true', Bool.not_eq_false', decide_eq_true_eq, decide_eq_false_iff_not] at h5);refine aw_skip ?_;exact ⟨rfl, x6, ⟨rfl, rfl, rfl, rfl, rfl, rfl, rfl, rfl, trivial⟩, ⟨rfl, trivial⟩, rfl, hR, trivial⟩
     ·rintro x11 hR;replace hR : s1062_j1 (fun k_ z0_ => s1062_l2 (fun k_ z0_ => s1062_l1 a1 a2 a3 t5 k_ z0_) a2 a3 x1 k3 t10 k_ z0_) k8 x11 = some R := hR;unfold s1062_j1 at hR;refine aw_region [.p, .p, .p] ?_;refine st rfl rfl (eff_moveg rfl rfl) rfl ?_;refine st rfl rfl (eff_add rfl rfl rfl (by unfold I64; omega)) rfl ?_;refine st rfl rfl (eff_assigng rfl rfl) rfl ?_;refine st_nil ?_;exact ⟨rfl, (k8 + 1, t10, x11), ⟨rfl, rfl, rfl, rfl, rfl, rfl, rfl, rfl, trivial⟩, ⟨rfl, trivial⟩, rfl, ⟨hd2, hR⟩, by simp⟩
    ·replace h3 : (decide (((k8 : Nat) : Int) < (List.length a1 : Int))) = false := h3;obtain rfl := drop_nil hd2 (decF h3);rw [s1062_l2] at hR;refine aw_exit ?_;refine aw_region [.p, .p, .p, .k, .p] ?_;refine st rfl rfl (eff_moveO rfl rfl) rfl ?_;refine st rfl rfl (eff_moveg rfl rfl) rfl ?_;refine st rfl rfl (eff_buildSlice rfl Tryz.underlying51 ty3 z3 rfl (ps_cons rfl ps_nil) rfl (by simp []) (by decide)) rfl ?_;refine st_k rfl rfl (eff_appL (f := cInt) (out := x1) (new := [x6]) rfl app82 rfl rfl (src_eq rfl (src_sl (by decide) (by simp []))) (refsN rfl) (by simp; omega)) rfl ?_;refine st rfl rfl (eff_assignO rfl rfl) rfl ?_;refine st_nil ?_;refine aw_region [.p, .p, .p] ?_;refine st rfl rfl (eff_moveg rfl rfl) rfl ?_;refine st rfl rfl (eff_add rfl rfl rfl (by unfold I64; omega)) rfl ?_;refine st rfl rfl (eff_assigng rfl rfl) rfl ?_;refine st_nil ?_;exact ⟨rfl, (k3 + 1, t5, x1 ++ [x6]), ⟨rfl, rfl, rfl, rfl, rfl, rfl, trivial⟩, ⟨rfl, trivial⟩, rfl, ⟨(by first | omega | (dsimp only; omega) | (simp at *; omega)), hd, hR⟩, by simp⟩
  ·replace h1 : (decide (((k3 : Nat) : Int) < (List.length a0 : Int))) = false := h1;obtain rfl := drop_nil hd (decF h1);rw [s1062_l1] at hR;refine aw_exit ?_;refine aw_seq ?_;refine aw_region [.p, .p] ?_;refine st rfl rfl (eff_moveO rfl rfl) rfl ?_;refine st rfl rfl (eff_assignO rfl rfl) rfl ?_;refine st_nil ?_;refine aw_ret ?_;obtain rfl := Option.some.inj hR;exact res_c rfl (rv_viewL rfl rfl)
theorem short_turns {l : List S1124} {n : Int} (h : s1018 l n = true) (hl : l.length ≤ 256) : (l.length : Int) ≤ n := by
 unfold s1018 at h
 cases hc : ((decide (n < (List.length l : Int))) && (decide ((List.length l : Int) ≤ 256))) || (decide (258 < (List.length l : Int)))
 ·simp at hc; omega
 ·rw [hc] at h; cases h
theorem short_stands {l : List S1122} {n : Int} (h : s1016 l n = true) (hl : l.length ≤ 32) : (l.length : Int) ≤ n := by
 unfold s1016 at h
 cases hc : ((decide (n < (List.length l : Int))) && (decide ((List.length l : Int) ≤ 32))) || (decide (34 < (List.length l : Int)))
 ·simp at hc; omega
 ·rw [hc] at h; cases h
theorem apron_short {a0 : S1049} {m n : Int} (h : s1031 a0 m n = true) : (s1023 a0.Stands = 0 → (a0.Stands.length : Int) ≤ m) ∧ (s1025 a0.Turns = 0 → (a0.Turns.length : Int) ≤ n) := by
 unfold s1031 at h;rw [Bool.and_eq_true, s1017_eq, s1019_eq] at h;exact ⟨fun h1 => short_stands h.1 (stands_ok h1).1, fun h2 => short_turns h.2 (turns_ok h2).1⟩
theorem ground_zero {a : List S1122} {b : List S1124} {c : Int} : s1104 a b c = 0 ↔ s1023 a = 0 ∧ s1025 b = 0 ∧ s1123 c = 0 := by
 unfold s1104; rw [s1085_eq, s89_zero]; simp
theorem short10 {a0 : S1049} (h : s1031 a0 5 8 = true) : (¬ s1104 a0.Stands a0.Turns a0.Buffer ≠ 0 → a0.Turns.length ≤ 12) ∧ (¬ s1085 [(s1025 a0.Turns), (s1123 a0.Buffer)] ≠ 0 → a0.Turns.length ≤ 12) := by
 have hs := apron_short h;refine ⟨fun h1 => ?_, fun h1 => ?_⟩
 ·have := hs.2 (ground_zero.1 (Decidable.not_not.1 h1)).2.1; omega
 ·have h1 := Decidable.not_not.1 h1;rw [s1085_eq, s89_zero] at h1;have := hs.2 (h1 _ (by simp)); omega
theorem own10 {l : List S1122} (h : l.length * 40 ≤ 140737488351232) : (s1017 l).length * 8 ≤ 140737488351232 := by rw [s1017_eq]; omega
theorem s1194_eq (a b : Int) : s1194 a b = decide (a < b) := by
 have h : ∀ x, s202 x = false := fun x => by unfold s202; simp
 unfold s1194; rw [h]; simp
def W (a : S1063) (l : List S1079) (b : Int) : Int := ((l.filter (fun m => (s1113 a m && decide (b ≤ m.Moment)) && decide (m.Moment < b + a.Length))).map S1079.Seats).sum
theorem pres_l (b m z : Int) : ∀ (t : List S1124) (k : Nat) (x : Int), s1124_l1 b m z t k x = s1125_l1 b m z t k x
 | [], k, x => rfl
 | y :: t, k, x => by
  rw [s1124_l1, s1125_l1];unfold s1124_j1 s1125_j1;dsimp only;rw [pres_l b m z t, pres_l b m z t]; rfl
theorem pres_eq (t : List S1124) (b m z : Int) : s1124 t b m z = s1125 t b m z := pres_l b m z t 0 0
theorem lack_l (t : List S1124) (b : Int) (x : S1106) : ∀ (l : List S1122) (k : Nat) (n : Int), s1122_l1 t b x l k n = s1061_l1 t b x l k n
 | [], k, n => by rw [s1122_l1, s1061_l1, pres_eq]
 | y :: l, k, n => by
  rw [s1122_l1, s1061_l1];unfold s1122_j1 s1061_j1;dsimp only;rw [lack_l t b x l, lack_l t b x l]
theorem lack_eq (l : List S1122) (t : List S1124) (b : Int) (x : S1106) : s1122 l t b x = s1061 l t b x := lack_l t b x l 0 0
theorem starts_l : ∀ (t : List S1124) (k : Nat) (x : List Int), s1121_l1 t k x = s1121_l1 [] 0 (x ++ t.map S1124.Start)
 | [], k, x => by rw [List.map_nil, List.append_nil, s1121_l1, s1121_l1]
 | y :: t, k, x => by
  conv => lhs; rw [s1121_l1]
  rw [starts_l t, List.map_cons, List.append_assoc]; rfl
theorem starts_ok (t : List S1124) : ∃ st, s1121 t = some st ∧ st.Pairwise (· ≤ ·) ∧ ∀ x, x ∈ st ↔ x ∈ t.map S1124.Start := by
 have hs : (isort s1194 (t.map S1124.Start)).Pairwise (· ≤ ·) := by
  refine isort_sorted (Rel := fun (x y : Int) => x ≤ y) (fun a b c h k => Int.le_trans h k) (List.pairwise_of_forall fun y x => ⟨fun h => ?_, fun h => ?_⟩)
  ·rw [s1194_eq] at h; have := of_decide_eq_true h; omega
  ·rw [s1194_eq] at h; have := of_decide_eq_false h; omega
 obtain ⟨R, r1, r2, r3⟩ := cp_ok hs;refine ⟨_, ?_, r2, fun x => (r3 x).trans (isort_perm s1194 (t.map S1124.Start)).mem_iff⟩;unfold s1121;rw [starts_l, s1121_l1, List.nil_append, s1160_ok];simp only [bindO];rw [r1]
def top (f : Int → Bool) : Nat → Option Int
 | 0 => none
 | n + 1 => if f ((n : Int) + 1) = true then some ((n : Int) + 1) else top f n
theorem top_rng {f : Int → Bool} : ∀ {n : Nat} {s : Int}, top f n = some s → 1 ≤ s ∧ s ≤ n ∧ f s = true
 | 0, s, h => by cases h
 | n + 1, s, h => by
  rw [top] at h
  split at h
  ·rename_i hf
   cases h
   exact ⟨by omega, by push_cast; omega, hf⟩
  ·have := top_rng h;exact ⟨this.1, by push_cast; omega, this.2.2⟩
theorem cl_l2 (rec1 : Nat → Option (S1106 × Int)) (a0 : List S1122) (a1 : List S1124) (a2 : Int) (k5 : Nat) (y : Int) : ∀ (k : Nat), s1054_l2 rec1 a0 a1 a2 k5 y k (9 - (k : Int)) = match top (fun s => s1061 a0 a1 a2 ⟨y, s⟩) k with | some s => s1054_j1 y s | none => rec1 (k5 + 1)
 | 0 => rfl
 | k + 1 => by
  rw [s1054_l2, top, lack_eq]
  have e1 : (9 : Int) - (9 - ((k + 1 : Nat) : Int)) = (k : Int) + 1 := by push_cast; omega
  have e2 : (9 : Int) - ((k + 1 : Nat) : Int) + 1 = 9 - (k : Int) := by push_cast; omega
  rw [e1, e2]
  cases hc : s1061 a0 a1 a2 ⟨y, (k : Int) + 1⟩
  ·rw [cond_false, if_neg (by simp)]; exact cl_l2 rec1 a0 a1 a2 k5 y k
  ·rw [cond_true, if_pos rfl]
def ff (f : Int → Int → Bool) (st : List Int) : Option (Int × Int) := st.findSome? fun m => (top (f m) 9).map fun s => (m, s)
def fin : Option (Int × Int) → S1106 × Int
 | some (m, s) => (⟨m, s⟩, 0)
 | none => (⟨0, 0⟩, 7)
theorem cl_l1 (a0 : List S1122) (a1 : List S1124) (a2 : Int) : ∀ (st : List Int) (k : Nat), s1054_l1 a0 a1 a2 st k = some (fin (ff (fun m s => s1061 a0 a1 a2 ⟨m, s⟩) st))
 | [], k => rfl
 | y :: st, k => by
  have := cl_l2 (fun k_ => s1054_l1 a0 a1 a2 st k_) a0 a1 a2 k y 9;rw [s1054_l1, show (((9 : Int) - 0).toNat) = 9 from rfl];rw [show (9 : Int) - ((9 : Nat) : Int) = 0 from rfl] at this;rw [this];unfold ff;rw [List.findSome?_cons]
  cases ht : top (fun s => s1061 a0 a1 a2 ⟨y, s⟩) 9 with
  | none => exact cl_l1 a0 a1 a2 st _
  | some s =>
   have := top_rng ht;show s1054_j1 y s = some (fin (some (y, s)));unfold s1054_j1 fin;rw [s1086_ite]
   simp [eqAnd]; omega
def up (y : Int) : Option Int → Bool × Int × Int → Bool × Int × Int
 | none, z => z
 | some s, (f, m, b) => if (!f || decide (y < m) || (decide (y = m) && decide (b < s))) = true then (true, y, s) else (f, m, b)
theorem up_step (y : Int) (o : Option Int) (n : Int) (z : Bool × Int × Int) (ho : ∀ s, o = some s → s < n) :
  up y (some n) z = if (!(up y o z).1 || decide (y < (up y o z).2.1) || (decide (y = (up y o z).2.1) && decide ((up y o z).2.2 < n))) = true then (true, y, n) else up y o z := by
 obtain ⟨f, m, b⟩ := z
 cases o with
 | none => rfl
 | some s =>
  have hs := ho s rfl
  by_cases hc : (!f || decide (y < m) || (decide (y = m) && decide (b < s))) = true
  ·have e : up y (some s) (f, m, b) = (true, y, s) := if_pos hc;rw [e]
   have h2 : (!f || decide (y < m) || (decide (y = m) && decide (b < n))) = true := by
    simp only [Bool.or_eq_true, Bool.and_eq_true, decide_eq_true_eq] at hc ⊢
    rcases hc with hc | hc
    ·exact .inl hc
    ·exact .inr ⟨hc.1, by omega⟩
   have e2 : up y (some n) (f, m, b) = (true, y, n) := if_pos h2;rw [e2, if_pos (by simp [hs])]
  ·have e : up y (some s) (f, m, b) = (f, m, b) := if_neg hc;rw [e]; rfl
theorem rc_l2 (rec1 : Nat → Bool → Int → Int → S1106 × Bool) (a0 : List S1122) (a1 : List S1124) (a2 : Int) (k5 : Nat) (y : S1124) (z : Bool × Int × Int) : ∀ (k j : Nat), j + k = 9 →
  s1060_l2 rec1 a0 a1 a2 k5 y k (up y.Start (top (fun s => s1061 a0 a1 a2 ⟨y.Start, s⟩) j) z).1 ((j : Int) + 1) (up y.Start (top (fun s => s1061 a0 a1 a2 ⟨y.Start, s⟩) j) z).2.1 (up y.Start (top (fun s => s1061 a0 a1 a2 ⟨y.Start, s⟩) j) z).2.2 =
   rec1 (k5 + 1) (up y.Start (top (fun s => s1061 a0 a1 a2 ⟨y.Start, s⟩) 9) z).1 (up y.Start (top (fun s => s1061 a0 a1 a2 ⟨y.Start, s⟩) 9) z).2.1 (up y.Start (top (fun s => s1061 a0 a1 a2 ⟨y.Start, s⟩) 9) z).2.2
 | 0, j, h => by
  have : j = 9 := by omega
  subst this;rw [s1060_l2]
 | k + 1, j, h => by
  have ih := rc_l2 rec1 a0 a1 a2 k5 y z k (j + 1) (by omega);rw [s1060_l2];unfold s1060_j1;dsimp only
  have e : (j : Int) + 1 + 1 = ((j + 1 : Nat) : Int) + 1 := by push_cast; rfl
  rw [e];have ht : top (fun s => s1061 a0 a1 a2 ⟨y.Start, s⟩) (j + 1) = if s1061 a0 a1 a2 ⟨y.Start, (j : Int) + 1⟩ = true then some ((j : Int) + 1) else top (fun s => s1061 a0 a1 a2 ⟨y.Start, s⟩) j := rfl;rw [ht] at ih
  cases hf : s1061 a0 a1 a2 ⟨y.Start, (j : Int) + 1⟩ with
  | false =>
   rw [hf, if_neg (by simp)] at ih;rw [Bool.false_and, cond_false]; exact ih
  | true =>
   rw [hf, if_pos rfl] at ih;rw [up_step y.Start (top (fun s => s1061 a0 a1 a2 ⟨y.Start, s⟩) j) ((j : Int) + 1) z (fun s hs => by have := top_rng hs; omega)] at ih;rw [Bool.true_and];generalize up y.Start (top (fun s => s1061 a0 a1 a2 ⟨y.Start, s⟩) j) z = u at ih ⊢
   cases hc : (!u.1 || decide (y.Start < u.2.1) || (decide (y.Start = u.2.1) && decide (u.2.2 < (j : Int) + 1))) with
   | true =>
    rw [hc, if_pos rfl] at ih;rw [cond_true]; exact ih
   | false =>
    rw [hc, if_neg (by simp)] at ih;rw [cond_false]; exact ih
theorem rc_l1 (a0 : List S1122) (a1 : List S1124) (a2 : Int) : ∀ (t : List S1124) (k : Nat) (z : Bool × Int × Int),
  s1060_l1 a0 a1 a2 t k z.1 z.2.1 z.2.2 = (let w := t.foldl (fun z y => up y.Start (top (fun s => s1061 a0 a1 a2 ⟨y.Start, s⟩) 9) z) z; (⟨w.2.1, w.2.2⟩, w.1))
 | [], k, z => rfl
 | y :: t, k, z => by
  have := rc_l2 (fun k_ z0_ z1_ z2_ => s1060_l1 a0 a1 a2 t k_ z0_ z1_ z2_) a0 a1 a2 k y z 9 0 rfl;rw [s1060_l1, show ((((9 : Int) + 1) - 1).toNat) = 9 from rfl];refine this.trans ?_;exact rc_l1 a0 a1 a2 t _ _
def Bst (f : Int → Int → Bool) (S : List Int) (z : Bool × Int × Int) : Prop :=
 (z = (false, 0, 0) ∧ ∀ m ∈ S, top (f m) 9 = none) ∨ (∃ m s, z = (true, m, s) ∧ m ∈ S ∧ top (f m) 9 = some s ∧ ∀ n ∈ S, top (f n) 9 ≠ none → m ≤ n)
theorem bst_fold (f : Int → Int → Bool) : ∀ (t : List S1124) (S : List Int) (z : Bool × Int × Int), Bst f S z → Bst f (S ++ t.map S1124.Start) (t.foldl (fun z y => up y.Start (top (f y.Start) 9) z) z)
 | [], S, z, h => by simpa using h
 | y :: t, S, z, h => by
  rw [List.map_cons, List.foldl_cons, show S ++ y.Start :: t.map S1124.Start = (S ++ [y.Start]) ++ t.map S1124.Start by simp];refine bst_fold f t _ _ ?_
  cases ht : top (f y.Start) 9 with
  | none =>
   rcases h with ⟨rfl, h⟩ | ⟨m, s, rfl, h1, h2, h3⟩
   ·refine .inl ⟨rfl, fun n hn => ?_⟩
    rcases List.mem_append.1 hn with hn | hn
    ·exact h n hn
    ·rw [List.mem_singleton.1 hn]; exact ht
   ·refine .inr ⟨m, s, rfl, by simp [h1], h2, fun n hn hq => ?_⟩
    rcases List.mem_append.1 hn with hn | hn
    ·exact h3 n hn hq
    ·rw [List.mem_singleton.1 hn] at hq; exact absurd ht hq
  | some s' =>
   rcases h with ⟨rfl, h⟩ | ⟨m, s, rfl, h1, h2, h3⟩
   ·refine .inr ⟨y.Start, s', rfl, by simp, ht, fun n hn hq => ?_⟩
    rcases List.mem_append.1 hn with hn | hn
    ·exact absurd (h n hn) hq
    ·rw [List.mem_singleton.1 hn]; exact Int.le_refl _
   ·by_cases hlt : y.Start < m
    ·have e : up y.Start (some s') (true, m, s) = (true, y.Start, s') := if_pos (by simp [hlt]);rw [e];refine .inr ⟨y.Start, s', rfl, by simp, ht, fun n hn hq => ?_⟩
     rcases List.mem_append.1 hn with hn | hn
     ·have := h3 n hn hq; omega
     ·rw [List.mem_singleton.1 hn]; exact Int.le_refl _
    ·have hno : ¬ (!true || decide (y.Start < m) || (decide (y.Start = m) && decide (s < s'))) = true := by
      simp only [Bool.not_true, Bool.false_or, Bool.or_eq_true, Bool.and_eq_true, decide_eq_true_eq];rintro (h | ⟨rfl, h⟩)
      ·exact hlt h
      ·rw [ht] at h2; cases h2; omega
     have e : up y.Start (some s') (true, m, s) = (true, m, s) := if_neg hno;rw [e];refine .inr ⟨m, s, rfl, by simp [h1], h2, fun n hn hq => ?_⟩
     rcases List.mem_append.1 hn with hn | hn
     ·exact h3 n hn hq
     ·rw [List.mem_singleton.1 hn]; omega
theorem ff_sorted {f : Int → Int → Bool} : ∀ {st : List Int}, st.Pairwise (· ≤ ·) → (ff f st = none ∧ ∀ m ∈ st, top (f m) 9 = none) ∨ (∃ m s, ff f st = some (m, s) ∧ m ∈ st ∧ top (f m) 9 = some s ∧ ∀ n ∈ st, top (f n) 9 ≠ none → m ≤ n)
 | [], _ => .inl ⟨rfl, by simp⟩
 | y :: st, h => by
  rw [List.pairwise_cons] at h;unfold ff;rw [List.findSome?_cons]
  cases ht : top (f y) 9 with
  | some s =>
   refine .inr ⟨y, s, rfl, by simp, ht, fun n hn _ => ?_⟩
   rcases List.mem_cons.1 hn with rfl | hn
   ·exact Int.le_refl _
   ·exact h.1 n hn
  | none =>
   rcases ff_sorted h.2 with ⟨h1, h2⟩ | ⟨m, s, h1, h2, h3, h4⟩
   ·refine .inl ⟨h1, fun m hm => ?_⟩
    rcases List.mem_cons.1 hm with rfl | hm
    ·exact ht
    ·exact h2 m hm
   ·refine .inr ⟨m, s, h1, by simp [h2], h3, fun n hn hq => ?_⟩
    rcases List.mem_cons.1 hn with rfl | hn
    ·exact absurd ht hq
    ·exact h4 n hn hq
theorem clash_eq (a0 : List S1122) (a1 : List S1124) (a2 : Int) (h : s1104 a0 a1 a2 = 0) :
  s1054 a0 a1 a2 = some ((s1060 a0 a1 a2).1, s1038 (!(s1060 a0 a1 a2).2) 7) := by
 obtain ⟨st, h1, h2, h3⟩ := starts_ok a1;unfold s1054 s1060;rw [h, h1];simp only [bindO];rw [cl_l1];have hr := rc_l1 a0 a1 a2 a1 0 (false, 0, 0);have hb := bst_fold (fun m s => s1061 a0 a1 a2 ⟨m, s⟩) a1 [] (false, 0, 0) (.inl ⟨rfl, by simp⟩);rw [List.nil_append] at hb;rw [hr];generalize a1.foldl (fun z y => up y.Start (top (fun s => s1061 a0 a1 a2 ⟨y.Start, s⟩) 9) z) (false, 0, 0) = w at hb ⊢
 rcases hb with ⟨rfl, hb⟩ | ⟨m, s, rfl, b1, b2, b3⟩
 ·rcases ff_sorted (f := fun m s => s1061 a0 a1 a2 ⟨m, s⟩) h2 with ⟨f1, f2⟩ | ⟨m', s', f1, f2, f3, f4⟩
  ·rw [f1]; rfl
  ·rw [hb m' ((h3 m').1 f2)] at f3; cases f3
 ·rcases ff_sorted (f := fun m s => s1061 a0 a1 a2 ⟨m, s⟩) h2 with ⟨f1, f2⟩ | ⟨m', s', f1, f2, f3, f4⟩
  ·rw [f2 m ((h3 m).2 b1)] at b2; cases b2
  ·have q1 := b3 m' ((h3 m').1 f2) (by rw [f3]; simp);have q2 := f4 m ((h3 m).2 b1) (by rw [b2]; simp)
   have : m = m' := by omega
   subst this;rw [b2] at f3; cases f3;rw [f1]; rfl
def vmax (l : List Int) (f : Int → Int) (v : Int) : Int := l.foldl (fun a m => max a (f m)) v
theorem vmax_spec (f : Int → Int) : ∀ (l : List Int) (v : Int), v ≤ vmax l f v ∧ (∀ m ∈ l, f m ≤ vmax l f v) ∧ (vmax l f v = v ∨ ∃ m ∈ l, vmax l f v = f m)
 | [], v => ⟨Int.le_refl _, by simp, .inl rfl⟩
 | y :: l, v => by
  have ih := vmax_spec f l (max v (f y));have e : vmax (y :: l) f v = vmax l f (max v (f y)) := rfl;rw [e];refine ⟨by omega, fun m hm => ?_, ?_⟩
  ·rcases List.mem_cons.1 hm with rfl | hm
   ·omega
   ·exact ih.2.1 m hm
  ·rcases ih.2.2 with h | ⟨m, hm, h⟩
   ·by_cases hv : v ≤ f y
    ·exact .inr ⟨y, by simp, by omega⟩
    ·exact .inl (by omega)
   ·exact .inr ⟨m, by simp [hm], h⟩
theorem vmax_congr {f : Int → Int} {l l' : List Int} (h : ∀ x, x ∈ l ↔ x ∈ l') (v : Int) : vmax l f v = vmax l' f v := by
 have a := vmax_spec f l v;have b := vmax_spec f l' v
 rcases a.2.2 with ha | ⟨m, hm, ha⟩ <;> rcases b.2.2 with hb | ⟨n, hn, hb⟩
 ·omega
 ·have := a.2.1 n ((h n).2 hn); omega
 ·have := b.2.1 m ((h m).1 hm); omega
 ·have := a.2.1 n ((h n).2 hn); have := b.2.1 m ((h m).1 hm); omega
theorem le_l2 (rec1 : Nat → List Int → Option ((Int × Int × Int × Int × Int × Int × Int × Int × Int) × Int)) (t : List S1124) (b : Int) (k5 : Nat) (y : Int) (x1 x2 x3 x4 x5 x6 x7 x8 x9 : Int) :
  s1056_l2 rec1 t b k5 y 9 0 [x1, x2, x3, x4, x5, x6, x7, x8, x9] = rec1 (k5 + 1) [max x1 (s1124 t b y 1), max x2 (s1124 t b y 2), max x3 (s1124 t b y 3), max x4 (s1124 t b y 4), max x5 (s1124 t b y 5), max x6 (s1124 t b y 6), max x7 (s1124 t b y 7), max x8 (s1124 t b y 8), max x9 (s1124 t b y 9)] := rfl
theorem le_l1 (t : List S1124) (b : Int) : ∀ (st : List Int) (k : Nat) (x1 x2 x3 x4 x5 x6 x7 x8 x9 : Int),
  s1056_l1 t b st k [x1, x2, x3, x4, x5, x6, x7, x8, x9] = some ((vmax st (fun y => s1124 t b y 1) x1, vmax st (fun y => s1124 t b y 2) x2, vmax st (fun y => s1124 t b y 3) x3, vmax st (fun y => s1124 t b y 4) x4, vmax st (fun y => s1124 t b y 5) x5, vmax st (fun y => s1124 t b y 6) x6, vmax st (fun y => s1124 t b y 7) x7, vmax st (fun y => s1124 t b y 8) x8, vmax st (fun y => s1124 t b y 9) x9), 0)
 | [], k, x1, x2, x3, x4, x5, x6, x7, x8, x9 => rfl
 | y :: st, k, x1, x2, x3, x4, x5, x6, x7, x8, x9 => by
  rw [s1056_l1, show (((9 : Int) - 0).toNat) = 9 from rfl, le_l2];exact le_l1 t b st _ _ _ _ _ _ _ _ _ _
theorem lr_l2 (rec1 : Int → List Int → Option (Int × Int × Int × Int × Int × Int × Int × Int × Int)) (a0 : List S1124) (b : Int) (i : Nat) : ∀ (t : List S1124) (k : Nat) (x : List Int) (v : Int), x[i]? = some v →
  s1059_l2 rec1 a0 b (i : Int) t k x = rec1 ((i : Int) + 1) (x.set i (vmax (t.map S1124.Start) (fun m => s1125 a0 b m ((i : Int) + 1)) v))
 | [], k, x, v, h => by
  have : x.set i v = x := by
   obtain ⟨h1, h2⟩ := List.getElem?_eq_some_iff.1 h;rw [← h2]; exact List.set_getElem_self h1
  show rec1 ((i : Int) + 1) x = rec1 ((i : Int) + 1) (x.set i v);rw [this]
 | y :: t, k, x, v, h => by
  have hix : ixO x (i : Int) = some v := by
   unfold ixO; rw [decide_eq_true (by omega), cond_true, Int.toNat_natCast]; exact h
  have hlt : i < x.length := (List.getElem?_eq_some_iff.1 h).1;rw [s1059_l2, hix];simp only [bindO];rw [Int.toNat_natCast, lr_l2 rec1 a0 b i t _ _ (max v (s1125 a0 b y.Start ((i : Int) + 1))) (by rw [List.getElem?_set_self hlt]), List.set_set]
  rfl
theorem lr_l1 (a0 : List S1124) (b : Int) (k : Nat) (i : Nat) (x : List Int) (v : Int) (h : x[i]? = some v) :
  s1059_l1 a0 b (k + 1) (i : Int) x = s1059_l1 a0 b k ((i : Int) + 1) (x.set i (vmax (a0.map S1124.Start) (fun m => s1125 a0 b m ((i : Int) + 1)) v)) := by
 rw [s1059_l1, lr_l2 _ a0 b i a0 0 x v h]
theorem least_ref (a0 : List S1124) (b : Int) : s1059 a0 b = some (vmax (a0.map S1124.Start) (fun y => s1125 a0 b y 1) 0, vmax (a0.map S1124.Start) (fun y => s1125 a0 b y 2) 0, vmax (a0.map S1124.Start) (fun y => s1125 a0 b y 3) 0, vmax (a0.map S1124.Start) (fun y => s1125 a0 b y 4) 0, vmax (a0.map S1124.Start) (fun y => s1125 a0 b y 5) 0, vmax (a0.map S1124.Start) (fun y => s1125 a0 b y 6) 0, vmax (a0.map S1124.Start) (fun y => s1125 a0 b y 7) 0, vmax (a0.map S1124.Start) (fun y => s1125 a0 b y 8) 0, vmax (a0.map S1124.Start) (fun y => s1125 a0 b y 9) 0) := by
 unfold s1059;rw [show (((9 : Int) - 0).toNat) = 8 + 1 from rfl];refine (lr_l1 a0 b 8 0 _ 0 rfl).trans ?_;refine (lr_l1 a0 b 7 1 _ 0 rfl).trans ?_;refine (lr_l1 a0 b 6 2 _ 0 rfl).trans ?_;refine (lr_l1 a0 b 5 3 _ 0 rfl).trans ?_;refine (lr_l1 a0 b 4 4 _ 0 rfl).trans ?_;refine (lr_l1 a0 b 3 5 _ 0 rfl).trans ?_;refine (lr_l1 a0 b 2 6 _ 0 rfl).trans ?_;refine (lr_l1 a0 b 1 7 _ 0 rfl).trans ?_;refine (lr_l1 a0 b 0 8 _ 0 rfl).trans ?_
 rfl
theorem least_eq (a0 : List S1124) (b : Int) (h : s1085 [s1025 a0, s1123 b] = 0) : ∃ r, s1059 a0 b = some r ∧ s1056 a0 b = some (r, 0) := by
 obtain ⟨st, h1, h2, h3⟩ := starts_ok a0;refine ⟨_, least_ref a0 b, ?_⟩;unfold s1056;rw [h, h1];simp only [bindO];refine (le_l1 a0 b st 0 0 0 0 0 0 0 0 0 0).trans ?_
 have e : ∀ z, vmax st (fun y => s1124 a0 b y z) 0 = vmax (a0.map S1124.Start) (fun y => s1125 a0 b y z) 0 := fun z => by
  rw [vmax_congr h3]; congr 1; funext y; exact pres_eq a0 b y z
 rw [e, e, e, e, e, e, e, e, e]
theorem as_l2 {a1 : List S1124} {a2 : Int} {a3 : List Int} (ht : ∀ t ∈ a1, TurnOk t) (b0 : 0 ≤ a2) (b1 : a2 ≤ 240) (hl : a3.length = a1.length) (r : Nat → Option Int) (k2 : Nat) (y3 : Int) (yT : S1124) (g3 : a3[k2]? = some y3) (g1 : a1[k2]? = some yT) :
  ∀ (n x : Nat), x + n = k2 → s1110_l2 r a1 a2 a3 k2 y3 n (x : Int) = s1036_l2 r a1 a2 a3 k2 yT n (x : Int) ∧ (s1036_l2 r a1 a2 a3 k2 yT n (x : Int) = some 15 ∨ s1036_l2 r a1 a2 a3 k2 yT n (x : Int) = r (k2 + 1))
 | 0, x, _ => ⟨rfl, .inr rfl⟩
 | n + 1, x, h => by
  have hk : k2 < a1.length := (List.getElem?_eq_some_iff.1 g1).1;have ih := as_l2 ht b0 b1 hl r k2 y3 yT g3 g1 n (x + 1) (by omega);have q1 : ixO a3 (x : Int) = some a3[x] := ixO_at (by omega);have q2 : ixO a1 (x : Int) = some a1[x] := ixO_at (by omega)
  have q3 : ixO a3 (k2 : Int) = some y3 := by unfold ixO; rw [decide_eq_true (by omega), cond_true, Int.toNat_natCast]; exact g3
  have q4 : ixO a1 (k2 : Int) = some yT := by unfold ixO; rw [decide_eq_true (by omega), cond_true, Int.toNat_natCast]; exact g1
  have hT : TurnOk yT := ht _ (List.mem_of_getElem? g1);have hX : TurnOk a1[x] := ht _ (List.getElem_mem _);rw [s1110_l2, s1036_l2, q1, q2, q3, q4];simp only [bindO]
  have e : (x : Int) + 1 = ((x + 1 : Nat) : Int) := by push_cast; rfl
  rw [e]
  cases hc : decide (a3[x] = y3) with
  | false => simp only [cond_false, Bool.false_and]; exact ih
  | true =>
   simp only [cond_true, Bool.true_and];rw [overlap_eq hX hT b0 b1]
   cases hd : s1070 a1[x] yT a2 with
   | true => exact ⟨rfl, .inl rfl⟩
   | false => rw [cond_false]; exact ih
theorem as_l1 {a0 : List S1122} {a1 : List S1124} {a2 : Int} {a3 : List Int} (ht : ∀ t ∈ a1, TurnOk t) (b0 : 0 ≤ a2) (b1 : a2 ≤ 240) (hl : a3.length = a1.length) :
  ∀ (t3 : List Int) (t1 : List S1124) (k : Nat), a3.drop k = t3 → a1.drop k = t1 → ∃ e, s1110_l1 a0 a1 a2 a3 t3 k = some e ∧ s1036_l1 a0 a1 a2 a3 t1 k = some e ∧ (e = 0 → ∀ y ∈ t3, 0 ≤ y ∧ y < (a0.length : Int))
 | [], t1, k, h3, h1 => by
  have : t1 = [] := by
   have q := congrArg List.length h3;have q1 := congrArg List.length h1;rw [List.length_drop] at q q1
   simp at q
   exact List.eq_nil_of_length_eq_zero (by omega)
  subst this;exact ⟨0, rfl, rfl, fun _ => by simp⟩
 | y3 :: t3, t1, k, h3, h1 => by
  have hk : k < a3.length := by
   have q := congrArg List.length h3;rw [List.length_drop] at q; simp at q; omega
  have hk1 : k < a1.length := by omega
  rw [List.drop_eq_getElem_cons hk] at h3;obtain ⟨e3, h3'⟩ := List.cons.inj h3;rw [List.drop_eq_getElem_cons hk1] at h1;subst h1
  have g3 : a3[k]? = some y3 := by rw [List.getElem?_eq_getElem hk, e3]
  have g1 : a1[k]? = some a1[k] := List.getElem?_eq_getElem hk1
  have q3 : ixO a3 (k : Int) = some y3 := by unfold ixO; rw [decide_eq_true (by omega), cond_true, Int.toNat_natCast]; exact g3
  have q4 : ixO a1 (k : Int) = some a1[k] := ixO_at hk1;rw [s1110_l1, s1036_l1, q3, q4];simp only [bindO]
  by_cases c1 : y3 < 0
  ·rw [decide_eq_true c1];exact ⟨10, rfl, rfl, fun h => by cases h⟩
  ·rw [decide_eq_false c1];simp only [Bool.not_false, cond_true, q3, Bool.false_or]
   by_cases c2 : (a0.length : Int) ≤ y3
   ·rw [decide_eq_true c2];exact ⟨10, rfl, rfl, fun h => by cases h⟩
   ·rw [decide_eq_false c2, cond_false, cond_false]
    have q5 : ixO a0 y3 = some (a0[y3.toNat]'(by omega)) := by unfold ixO; rw [decide_eq_true (by omega), cond_true, List.getElem?_eq_getElem (by omega)]
    rw [q5]
    simp only
    rw [suits_eq]
    cases hs : s1068 (a0[y3.toNat]'(by omega)) a1[k] with
    | false => exact ⟨18, rfl, rfl, fun h => by cases h⟩
    | true =>
     rw [Bool.not_true, cond_false, cond_false];obtain ⟨e, i1, i2, i3⟩ := as_l1 (a0 := a0) ht b0 b1 hl t3 (a1.drop (k + 1)) (k + 1) h3' rfl
     have hz : ((((k : Nat) : Int) - 0).toNat) = k := by omega
     rw [hz];have l1 := as_l2 ht b0 b1 hl (fun k_ => s1110_l1 a0 a1 a2 a3 t3 k_) k y3 a1[k] g3 g1 k 0 (by omega);have l2 := as_l2 ht b0 b1 hl (fun k_ => s1036_l1 a0 a1 a2 a3 (a1.drop (k + 1)) k_) k y3 a1[k] g3 g1 k 0 (by omega)
     have l3 : s1036_l2 (fun k_ => s1110_l1 a0 a1 a2 a3 t3 k_) a1 a2 a3 k a1[k] k 0 = s1036_l2 (fun k_ => s1036_l1 a0 a1 a2 a3 (a1.drop (k + 1)) k_) a1 a2 a3 k a1[k] k 0 :=
      as_rec (by show s1110_l1 a0 a1 a2 a3 t3 (k + 1) = _; rw [i1, i2]) k 0
     rw [show ((0 : Nat) : Int) = 0 from rfl] at l1 l2;rw [l1.1, l3]
     rcases l2.2 with h | h
     ·exact ⟨15, h, h, fun h => by cases h⟩
     ·refine ⟨e, by rw [h]; exact i2, by rw [h]; exact i2, fun he y hy => ?_⟩
      rcases List.mem_cons.1 hy with rfl | hy
      ·omega
      ·exact i3 he y hy
where as_rec {a1 : List S1124} {a2 : Int} {a3 : List Int} {r r' : Nat → Option Int} {k2 : Nat} {yT : S1124} (h : r (k2 + 1) = r' (k2 + 1)) : ∀ (n : Nat) (x : Int), s1036_l2 r a1 a2 a3 k2 yT n x = s1036_l2 r' a1 a2 a3 k2 yT n x
 | 0, x => h
 | n + 1, x => by
  rw [s1036_l2, s1036_l2];have e : s1036_l2 r a1 a2 a3 k2 yT n (x + 1) = s1036_l2 r' a1 a2 a3 k2 yT n (x + 1) := as_rec h n (x + 1);rw [e]
theorem assign_eq {a0 : List S1122} {a1 : List S1124} {a2 : Int} {a3 : List Int} (hz : s1104 a0 a1 a2 = 0) :
  ∃ e, s1033 a0 a1 a2 a3 = some e ∧ s1036 a0 a1 a2 a3 = some e ∧ (e = 0 → a3.length = a1.length ∧ ∀ y ∈ a3, 0 ≤ y ∧ y < (a0.length : Int)) := by
 obtain ⟨z1, z2, z3⟩ := ground_zero.1 hz;have ht := (turns_ok z2).2
 have hb : 0 ≤ a2 ∧ a2 ≤ 240 := by
  unfold s1123 at z3; rw [s1088_eq, s90_zero] at z3; exact z3
 unfold s1033 s1110 s1036;rw [hz]
 by_cases hl : a3.length = a1.length
 ·obtain ⟨e, e1, e2, e3⟩ := as_l1 (a0 := a0) ht hb.1 hb.2 hl a3 a1 0 rfl rfl;refine ⟨e, ?_, ?_, fun h => ⟨hl, e3 h⟩⟩
  ·rw [decide_eq_false (by simp), cond_false, decide_eq_false (by omega), cond_false, e1]; rfl
  ·rw [decide_eq_false (by omega), cond_false, e2]
 ·refine ⟨2, ?_, ?_, fun h => by cases h⟩
  ·rw [decide_eq_false (by simp), cond_false, decide_eq_true (by omega), cond_true]; rfl
  ·rw [decide_eq_true (by omega), cond_true]
def dur (b : Int) (t : S1124) : Int := t.End + b - t.Start
def bz (b i : Int) : List Int → List S1124 → Int
 | y :: l, t :: ts => (if y = i then dur b t else 0) + bz b i l ts
 | _, _ => 0
theorem dur_rng {b : Int} {t : S1124} (h : TurnOk t) (b0 : 0 ≤ b) (b1 : b ≤ 240) : 0 ≤ dur b t ∧ dur b t ≤ 150000000 := by
 have := h.s0; have := h.se; have := h.e1;unfold dur; omega
def addX (b : Int) (x : List Int) (l : List Int) (ts : List S1124) : List Int := (List.range x.length).map fun i => x.getD i 0 + bz b (i : Int) l ts
theorem addX_nil (b : Int) (x : List Int) (ts : List S1124) : addX b x [] ts = x := by
 unfold addX;refine List.ext_getElem (by simp) fun i h1 h2 => ?_;rw [List.getElem_map, List.getElem_range];simp only [bz, Int.add_zero];rw [List.getD_eq_getElem?_getD, List.getElem?_eq_getElem h2]; rfl
theorem pb_l1 {a1 : List S1124} {b : Int} (ht : ∀ t ∈ a1, TurnOk t) (b0 : 0 ≤ b) (b1 : b ≤ 240) : ∀ (t3 : List Int) (t1 : List S1124) (k : Nat) (x : List Int) (M : Int), a1.drop k = t1 → t3.length ≤ t1.length → (∀ y ∈ t3, 0 ≤ y ∧ y < (x.length : Int)) →
  (∀ v ∈ x, 0 ≤ v ∧ v ≤ M) → 0 ≤ M → M + 150000000 * (t3.length : Int) ≤ 1000000000000 → s1057_l1 a1 b t3 k x = some (addX b x t3 t1, 0)
 | [], t1, k, x, M, _, _, _, _, _, _ => by rw [addX_nil, s1057_l1]
 | y :: t3, [], k, x, M, _, h, _, _, _, _ => by simp at h
 | y :: t3, t :: t1, k, x, M, hd, h, hy, hx, m0, m1 => by
  have hk : k < a1.length := by
   have q := congrArg List.length hd;rw [List.length_drop] at q; simp at q; omega
  rw [List.drop_eq_getElem_cons hk] at hd;obtain ⟨e1, e2⟩ := List.cons.inj hd;have hyy := hy y List.mem_cons_self
  have hyl : y.toNat < x.length := by omega
  have q1 : ixO x y = some x[y.toNat] := by unfold ixO; rw [decide_eq_true (by omega), cond_true, List.getElem?_eq_getElem hyl]
  have q2 : ixO a1 (k : Int) = some t := by rw [ixO_at hk, e1]
  have hto : TurnOk t := by rw [← e1]; exact ht _ (List.getElem_mem _)
  have hdur := dur_rng hto b0 b1;have hv := hx _ (List.getElem_mem hyl);have s0 := hto.s0; have s1 := hto.se; have s2 := hto.e1;rw [List.length_cons] at m1;rw [s1057_l1, q1, q2];simp only [bindO];rw [wrap_i64 (n := t.End + b) (by unfold I64; omega), wrap_i64 (n := t.End + b - t.Start) (by unfold I64; omega), wrap_i64 (by unfold I64; omega)]
  have hnew : ∀ v ∈ x.set y.toNat (x[y.toNat] + (t.End + b - t.Start)), 0 ≤ v ∧ v ≤ M + 150000000 := fun v hv' => by
   rcases List.mem_or_eq_of_mem_set hv' with h | rfl
   ·have := hx v h; omega
   ·unfold dur at hdur; omega
  rw [pb_l1 ht b0 b1 t3 t1 (k + 1) _ (M + 150000000) e2 (by simpa using h) (fun z hz => by rw [List.length_set]; exact hy z (List.mem_cons_of_mem _ hz)) hnew (by omega) (by omega)]
  congr 2
  unfold addX;rw [List.length_set];refine List.map_congr_left fun i hi => ?_;have hi := List.mem_range.1 hi;rw [bz, List.getD_eq_getElem?_getD, List.getD_eq_getElem?_getD, List.getElem?_set]
  by_cases hc : y.toNat = i
  ·have hc2 : y = (i : Int) := by omega
   subst hc;rw [if_pos rfl, if_pos hyl, if_pos hc2, List.getElem?_eq_getElem hyl];simp only [Option.getD_some];unfold dur
   omega
  ·have hc2 : ¬ y = (i : Int) := by omega
   rw [if_neg hc, if_neg hc2]; omega
theorem rb_l2 {b : Int} {a3 : List Int} (b0 : 0 ≤ b) (b1 : b ≤ 240) (r : Nat → List Int → Option (List Int)) (x1 : List Int) (k3 : Nat) : ∀ (t : List S1124) (t3 : List Int) (k8 : Nat) (x6 : Int), a3.drop k8 = t3 → t3.length = t.length → (∀ y ∈ t, TurnOk y) → 0 ≤ x6 → x6 + 150000000 * (t.length : Int) ≤ 1000000000000 →
  s1062_l2 r b a3 x1 k3 t k8 x6 = r (k3 + 1) (x1 ++ [x6 + bz b (k3 : Int) t3 t])
 | [], t3, k8, x6, _, h, _, _, _ => by
  have : t3 = [] := List.eq_nil_of_length_eq_zero h;subst this;rw [bz, Int.add_zero, s1062_l2]
  simp
 | y :: t, [], k8, x6, _, h, _, _, _ => by simp at h
 | y :: t, z :: t3, k8, x6, hd, h, ht, m0, m1 => by
  have hk : k8 < a3.length := by
   have q := congrArg List.length hd;rw [List.length_drop] at q; simp at q; omega
  rw [List.drop_eq_getElem_cons hk] at hd;obtain ⟨e1, e2⟩ := List.cons.inj hd;have hto := ht y List.mem_cons_self;have hdur := dur_rng hto b0 b1;have s0 := hto.s0; have s1 := hto.se; have s2 := hto.e1;rw [List.length_cons] at m1;rw [s1062_l2, ixO_at hk, e1];simp only [bindO];unfold s1062_j1;dsimp only;have hrec := fun x h0 h1 => rb_l2 b0 b1 r x1 k3 t t3 (k8 + 1) x e2 (by simpa using h) (fun y hy => ht y (List.mem_cons_of_mem _ hy)) h0 h1
  by_cases hc : z = (k3 : Int)
  ·rw [decide_eq_true hc, cond_true, wrap_i64 (n := x6 + y.End) (by unfold I64; omega), wrap_i64 (n := x6 + y.End + b) (by unfold I64; omega), wrap_i64 (by unfold I64; omega)];rw [hrec _ (by unfold dur at hdur; omega) (by unfold dur at hdur; omega), bz, if_pos hc];unfold dur;rw [show x6 + y.End + b - y.Start + bz b (k3 : Int) t3 t = x6 + (y.End + b - y.Start + bz b (k3 : Int) t3 t) by omega]
  ·rw [decide_eq_false hc, cond_false, hrec _ m0 (by omega), bz, if_neg hc, Int.zero_add]
theorem rb_l1 {a1 : List S1124} {b : Int} {a3 : List Int} (ht : ∀ t ∈ a1, TurnOk t) (b0 : 0 ≤ b) (b1 : b ≤ 240) (hl : a3.length = a1.length) (h12 : a3.length ≤ 1000) : ∀ (t : List S1122) (k3 : Nat) (x1 : List Int), s1062_l1 a1 b a3 t k3 x1 = some (x1 ++ (List.range' k3 t.length).map (fun i : Nat => bz b (i : Int) a3 a1))
 | [], k3, x1 => by rw [s1062_l1]; simp
 | y :: t, k3, x1 => by
  rw [s1062_l1, rb_l2 b0 b1 _ x1 k3 a1 a3 0 0 rfl hl ht (Int.le_refl _) (by omega), rb_l1 ht b0 b1 hl h12 t, Int.zero_add, List.length_cons, List.range'_succ, List.map_cons, List.append_assoc]
  rfl
theorem busy_eq {a0 : List S1122} {a1 : List S1124} {a2 : Int} {a3 : List Int} (hz : s1104 a0 a1 a2 = 0) (h12 : a3.length ≤ 1000) :
  ∃ e, s1036 a0 a1 a2 a3 = some e ∧ (e ≠ 0 → s1057 a0 a1 a2 a3 = some ([], e)) ∧ (e = 0 → ∃ L, s1057 a0 a1 a2 a3 = some (L, 0) ∧ s1062 a0 a1 a2 a3 = some L) := by
 obtain ⟨e, e1, e2, e3⟩ := assign_eq (a3 := a3) hz;refine ⟨e, e2, fun h => ?_, fun h => ?_⟩
 ·unfold s1057;rw [e1];simp only [bindO];rw [decide_eq_true h, cond_true]
 ·subst h;obtain ⟨hl, hy⟩ := e3 rfl;obtain ⟨z1, z2, z3⟩ := ground_zero.1 hz;have ht := (turns_ok z2).2
  have hb : 0 ≤ a2 ∧ a2 ≤ 240 := by
   unfold s1123 at z3; rw [s1088_eq, s90_zero] at z3; exact z3
  refine ⟨addX a2 (List.replicate a0.length 0) a3 a1, ?_, ?_⟩
  ·unfold s1057;rw [e1];simp only [bindO];rw [decide_eq_false (by simp), cond_false];exact pb_l1 ht hb.1 hb.2 a3 a1 0 _ 0 rfl (by omega) (by rw [List.length_replicate]; exact hy) (fun v hv => by rw [List.eq_of_mem_replicate hv]; omega) (by decide) (by omega)
  ·unfold s1062;rw [rb_l1 ht hb.1 hb.2 hl h12 a0 0 [], List.nil_append]
   congr 1
   unfold addX;rw [List.length_replicate, List.range_eq_range'];refine List.map_congr_left fun i hi => ?_;have hi := List.mem_range'_1.1 hi;rw [List.getD_eq_getElem?_getD, List.getElem?_replicate, if_pos (by omega)]
   simp
section
variable {E : Env} {w0 : World} {M0 : Nat → Prop}
def Env.turn (E : Env) (lp : Nat) (mem : Mem) (x : Nat → Option Own) : Env := ⟨E.P, E.gl, E.orders, mem.map fun p => (p.1, x p.1), some lp, false⟩
theorem Con.turn {f : FuncId} {args : List G} {r : G} {lp : Nat} {mem : Mem} {x : Nat → Option Own} (h : Con E f args r) : Con (E.turn lp mem x) f args r := h
theorem ConB.turn {f : FuncId} {args : List TV} {r : G} {m m' : Mem} {lp : Nat} {mem : Mem} {x : Nat → Option Own} (h : ConB E f args m r m') : ConB (E.turn lp mem x) f args m r m' := h
def Jm (ρ : Rho) (Mo : Nat → Prop) (lp D : Nat) (w : World) (st : Obj) (m : Mem) (W : World) : Prop :=
 BelowX (fun b => b = lp ∨ ∃ id ow, ρ id = some (some ow) ∧ ow.b = b) w W ∧ (∀ id blk, lookO m id = some blk → BRel W Mo ρ id blk) ∧ W.heap[lp]? = some st ∧ W.heap[D]? = some (.deferred (some []))
theorem Jm.grow {ρ : Rho} {Mo : Nat → Prop} {lp D : Nat} {w W W' : World} {st : Obj} {m : Mem} (hsub : ∀ id ow, ρ id = some (some ow) → ow.b < w.heap.size) (h : Jm ρ Mo lp D w st m W) (hg : Grow W W') : Jm ρ Mo lp D w st m W' := by
 obtain ⟨h1, h2, h3, h4⟩ := h;refine ⟨h1.trans (BelowX.of_grow hg), fun id blk hb => ?_, (hg.block lp (Array.getElem?_eq_some_iff.1 h3).1).trans h3, (hg.block D (Array.getElem?_eq_some_iff.1 h4).1).trans h4⟩;exact (h2 id blk hb).mono none (by simp) (noref_none _) (fun ow ho => hg.block _ (Nat.lt_of_lt_of_le (hsub id ow ho) h1.size)) hg.hh (fun _ _ h => h) (fun _ _ _ => rfl)
end
end Go.Sim
namespace Go.Proofs
open Go.RowKit Go.Shelf
attribute [local go_sem] Oper.semAt_some
end Go.Proofs
namespace Go.Sim
theorem bl_tr : ∀ x y z : List UInt8, Op.bytesLess x y = true → Op.bytesLess y z = true → Op.bytesLess x z = true
 | _, _, [], _, h => by cases ‹List UInt8› <;> simp [Op.bytesLess] at h
 | _, [], _ :: _, h, _ => by cases ‹List UInt8› <;> simp [Op.bytesLess] at h
 | [], _ :: _, _ :: _, _, _ => rfl
 | a :: x, b :: y, c :: z, h, k => by
  simp only [Op.bytesLess, Bool.or_eq_true, decide_eq_true_eq, Bool.and_eq_true, beq_iff_eq] at h k ⊢
  rcases h with h | ⟨rfl, h⟩
  ·rcases k with k | ⟨rfl, k⟩
   ·exact .inl (UInt8.lt_trans h k)
   ·exact .inl h
  ·rcases k with k | ⟨rfl, k⟩
   ·exact .inl k
   ·exact .inr ⟨rfl, bl_tr x y z h k⟩
theorem bl_tri : ∀ x y : List UInt8, Op.bytesLess x y = false → Op.bytesLess y x = false → x = y
 | [], [], _, _ => rfl
 | [], _ :: _, h, _ => by simp [Op.bytesLess] at h
 | _ :: _, [], _, h => by simp [Op.bytesLess] at h
 | a :: x, b :: y, h, k => by
  simp only [Op.bytesLess, Bool.or_eq_false_iff, decide_eq_false_iff_not, Bool.and_eq_false_iff, beq_eq_false_iff_ne] at h k;have e : a = b := UInt8.le_antisymm (UInt8.not_lt.1 k.1) (UInt8.not_lt.1 h.1);subst e;rw [bl_tri x y (h.2.resolve_left fun g => g rfl) (k.2.resolve_left fun g => g rfl)]
theorem sl_tr {a b c : ByteArray} (h : strLt a b = true) (k : strLt b c = true) : strLt a c = true := bl_tr _ _ _ h k
theorem sl_tri {a b : ByteArray} (h : strLt a b = false) (k : strLt b a = false) : a = b := by
 have := bl_tri _ _ h k;have e := toList_inj (s := a) (s' := b);rw [this] at e
 simpa using e.symm
def RelR (a b : S1154) : Prop := strLt b.Name a.Name = false
theorem RelR.tr (a b c : S1154) (h : RelR a b) (k : RelR b c) : RelR a c := by
 unfold RelR at *
 cases hc : strLt c.Name a.Name
 ·rfl
 ·cases hb : strLt b.Name c.Name
  ·have := sl_tri hb k;rw [this] at h; rw [h] at hc; cases hc
  ·rw [sl_tr hb hc] at h; cases h
class PureCs (l : List G) : Prop where
 pure : PureL l
instance : PureCs [] := ⟨pureL_nil⟩
instance (c : G) (l : List G) [hc : Pure c] [hl : PureCs l] : PureCs (c :: l) := ⟨fun g hg => by
 rcases List.mem_cons.1 hg with rfl | hg
 ·exact fun _ _ _ _ _ h => hc.pure h
 ·exact hl.pure g hg⟩
theorem fitsT_pure {w w' : World} {M M' : Nat → Prop} : ∀ {l : List G} {vs : List Value}, PureL l → FitsT w M l vs → FitsT w' M' l vs
 | [], [], _, h => h
 | [], _ :: _, _, h => by cases h
 | _ :: _, [], _, h => by cases h
 | c :: l, v :: vs, hp, h => ⟨hp c List.mem_cons_self _ _ _ _ _ h.1, fitsT_pure (fun g hg => hp g (List.mem_cons_of_mem _ hg)) h.2⟩
instance (l : List G) [h : PureCs l] : Pure (.agg l) := ⟨fun ⟨vs, h1, h2⟩ => ⟨vs, h1, Fits.pure h.pure h2⟩⟩
instance (l : List G) [h : PureCs l] : Pure (.tup l) := ⟨fun ⟨vs, h1, h2⟩ => ⟨vs, h1, fitsT_pure h.pure h2⟩⟩
end Go.Sim
