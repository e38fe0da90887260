/-
  What is proved: lemmas and contracts of functions on the way to the law topBeaconTurns (part 10).
-/
import Derived.Test.YtkeegnagpekgmaaGreatVrA9
import Derived.Test.YtkeegnagpekgmaaGreatVrA8
import Derived.Test.YtkeegnagpekgmaaGreatVrA5
import Derived.Test.YtkeegnagpekgmaaGreatVrA7
import Derived.Test.YtkeegnagpekgmaaGreatVrA2
set_option linter.unusedSectionVars false
set_option linter.unusedSimpArgs false
set_option linter.unusedVariables false
set_option linter.unnecessarySimpa false
set_option linter.deprecated false
namespace Go.Ex
open Go.Proofs
def isInt (n : Int) : Re (V × H × Nat) → Bool
 | .ok (.lit (.int .i64 m), _, _) => m == n
 | _ => false
theorem isInt_ex {n : Int} {r : Re (V × H × Nat)} (h : isInt n r = true) : ∃ h' c', r = .ok (.lit (.int .i64 n), h', c') := by
 unfold isInt at h
 split at h
 ·rename_i m h' c'; exact ⟨h', c', by rw [of_decide_eq_true (by simpa using h) |> fun (e : m = n) => e]⟩
 ·cases h
def lenT (n : Int) : Int := bif decide (n ≤ 0) then 0 else bif decide (n ≤ 1) then 1 else bif decide (n ≤ 3) then 2 else bif decide (n ≤ 7) then 3 else 4
theorem r182_0 : isInt 0 (call Tryz.prog gl (fun _ _ _ _ _ => none) 40 (.fn 128) [.lit (.int .u64 0)] h0 1000 1000) = true := by kernel_rfl
theorem k182_0 : Sim.Con (Sim.EG Sim.glT) 128 [Sim.G.lit (.int .u64 0)] (Sim.G.int 0) := by
 obtain ⟨h', c', h⟩ := isInt_ex r182_0;exact con_of_call (vs := [.int .u64 0]) orc_none orcK_none (by decide) (gl_ok (by decide)) h
theorem r182_1 : isInt 1 (call Tryz.prog gl (fun _ _ _ _ _ => none) 40 (.fn 128) [.lit (.int .u64 1)] h0 1000 1000) = true := by kernel_rfl
theorem k182_1 : Sim.Con (Sim.EG Sim.glT) 128 [Sim.G.lit (.int .u64 1)] (Sim.G.int 1) := by
 obtain ⟨h', c', h⟩ := isInt_ex r182_1;exact con_of_call (vs := [.int .u64 1]) orc_none orcK_none (by decide) (gl_ok (by decide)) h
theorem r182_2 : isInt 2 (call Tryz.prog gl (fun _ _ _ _ _ => none) 40 (.fn 128) [.lit (.int .u64 2)] h0 1000 1000) = true := by kernel_rfl
theorem k182_2 : Sim.Con (Sim.EG Sim.glT) 128 [Sim.G.lit (.int .u64 2)] (Sim.G.int 2) := by
 obtain ⟨h', c', h⟩ := isInt_ex r182_2;exact con_of_call (vs := [.int .u64 2]) orc_none orcK_none (by decide) (gl_ok (by decide)) h
theorem r182_3 : isInt 2 (call Tryz.prog gl (fun _ _ _ _ _ => none) 40 (.fn 128) [.lit (.int .u64 3)] h0 1000 1000) = true := by kernel_rfl
theorem k182_3 : Sim.Con (Sim.EG Sim.glT) 128 [Sim.G.lit (.int .u64 3)] (Sim.G.int 2) := by
 obtain ⟨h', c', h⟩ := isInt_ex r182_3;exact con_of_call (vs := [.int .u64 3]) orc_none orcK_none (by decide) (gl_ok (by decide)) h
theorem r182_4 : isInt 3 (call Tryz.prog gl (fun _ _ _ _ _ => none) 40 (.fn 128) [.lit (.int .u64 4)] h0 1000 1000) = true := by kernel_rfl
theorem k182_4 : Sim.Con (Sim.EG Sim.glT) 128 [Sim.G.lit (.int .u64 4)] (Sim.G.int 3) := by
 obtain ⟨h', c', h⟩ := isInt_ex r182_4;exact con_of_call (vs := [.int .u64 4]) orc_none orcK_none (by decide) (gl_ok (by decide)) h
theorem r182_5 : isInt 3 (call Tryz.prog gl (fun _ _ _ _ _ => none) 40 (.fn 128) [.lit (.int .u64 5)] h0 1000 1000) = true := by kernel_rfl
theorem k182_5 : Sim.Con (Sim.EG Sim.glT) 128 [Sim.G.lit (.int .u64 5)] (Sim.G.int 3) := by
 obtain ⟨h', c', h⟩ := isInt_ex r182_5;exact con_of_call (vs := [.int .u64 5]) orc_none orcK_none (by decide) (gl_ok (by decide)) h
theorem r182_6 : isInt 3 (call Tryz.prog gl (fun _ _ _ _ _ => none) 40 (.fn 128) [.lit (.int .u64 6)] h0 1000 1000) = true := by kernel_rfl
theorem k182_6 : Sim.Con (Sim.EG Sim.glT) 128 [Sim.G.lit (.int .u64 6)] (Sim.G.int 3) := by
 obtain ⟨h', c', h⟩ := isInt_ex r182_6;exact con_of_call (vs := [.int .u64 6]) orc_none orcK_none (by decide) (gl_ok (by decide)) h
theorem r182_7 : isInt 3 (call Tryz.prog gl (fun _ _ _ _ _ => none) 40 (.fn 128) [.lit (.int .u64 7)] h0 1000 1000) = true := by kernel_rfl
theorem k182_7 : Sim.Con (Sim.EG Sim.glT) 128 [Sim.G.lit (.int .u64 7)] (Sim.G.int 3) := by
 obtain ⟨h', c', h⟩ := isInt_ex r182_7;exact con_of_call (vs := [.int .u64 7]) orc_none orcK_none (by decide) (gl_ok (by decide)) h
theorem r182_8 : isInt 4 (call Tryz.prog gl (fun _ _ _ _ _ => none) 40 (.fn 128) [.lit (.int .u64 8)] h0 1000 1000) = true := by kernel_rfl
theorem k182_8 : Sim.Con (Sim.EG Sim.glT) 128 [Sim.G.lit (.int .u64 8)] (Sim.G.int 4) := by
 obtain ⟨h', c', h⟩ := isInt_ex r182_8;exact con_of_call (vs := [.int .u64 8]) orc_none orcK_none (by decide) (gl_ok (by decide)) h
theorem r182_9 : isInt 4 (call Tryz.prog gl (fun _ _ _ _ _ => none) 40 (.fn 128) [.lit (.int .u64 9)] h0 1000 1000) = true := by kernel_rfl
theorem k182_9 : Sim.Con (Sim.EG Sim.glT) 128 [Sim.G.lit (.int .u64 9)] (Sim.G.int 4) := by
 obtain ⟨h', c', h⟩ := isInt_ex r182_9;exact con_of_call (vs := [.int .u64 9]) orc_none orcK_none (by decide) (gl_ok (by decide)) h
theorem r182_10 : isInt 4 (call Tryz.prog gl (fun _ _ _ _ _ => none) 40 (.fn 128) [.lit (.int .u64 10)] h0 1000 1000) = true := by kernel_rfl
theorem k182_10 : Sim.Con (Sim.EG Sim.glT) 128 [Sim.G.lit (.int .u64 10)] (Sim.G.int 4) := by
 obtain ⟨h', c', h⟩ := isInt_ex r182_10;exact con_of_call (vs := [.int .u64 10]) orc_none orcK_none (by decide) (gl_ok (by decide)) h
theorem r182_11 : isInt 4 (call Tryz.prog gl (fun _ _ _ _ _ => none) 40 (.fn 128) [.lit (.int .u64 11)] h0 1000 1000) = true := by kernel_rfl
theorem k182_11 : Sim.Con (Sim.EG Sim.glT) 128 [Sim.G.lit (.int .u64 11)] (Sim.G.int 4) := by
 obtain ⟨h', c', h⟩ := isInt_ex r182_11;exact con_of_call (vs := [.int .u64 11]) orc_none orcK_none (by decide) (gl_ok (by decide)) h
theorem r182_12 : isInt 4 (call Tryz.prog gl (fun _ _ _ _ _ => none) 40 (.fn 128) [.lit (.int .u64 12)] h0 1000 1000) = true := by kernel_rfl
theorem k182_12 : Sim.Con (Sim.EG Sim.glT) 128 [Sim.G.lit (.int .u64 12)] (Sim.G.int 4) := by
 obtain ⟨h', c', h⟩ := isInt_ex r182_12;exact con_of_call (vs := [.int .u64 12]) orc_none orcK_none (by decide) (gl_ok (by decide)) h
end Go.Ex
namespace Go.Sim
open Go.Proofs Go.Ex
def lenU (n : Int) : Int := lenT n
theorem c182 (n : Int) (h : 0 ≤ n ∧ n ≤ 12) : Con (EG glT) 128 [G.lit (.int .u64 n)] (G.int (lenU n)) := by
 have : n = 0 ∨ n = 1 ∨ n = 2 ∨ n = 3 ∨ n = 4 ∨ n = 5 ∨ n = 6 ∨ n = 7 ∨ n = 8 ∨ n = 9 ∨ n = 10 ∨ n = 11 ∨ n = 12 := by omega
 rcases this with rfl | rfl | rfl | rfl | rfl | rfl | rfl | rfl | rfl | rfl | rfl | rfl | rfl
 ·exact k182_0
 ·exact k182_1
 ·exact k182_2
 ·exact k182_3
 ·exact k182_4
 ·exact k182_5
 ·exact k182_6
 ·exact k182_7
 ·exact k182_8
 ·exact k182_9
 ·exact k182_10
 ·exact k182_11
 ·exact k182_12
theorem c182w (n : Int) (h : 0 ≤ n ∧ n ≤ 12) : Con (EG glT) 128 [G.lit (.int .u64 (IntKind.u64.wrap n))] (G.int (lenU n)) := by
 have : IntKind.u64.wrap n = n := by
  have : n = 0 ∨ n = 1 ∨ n = 2 ∨ n = 3 ∨ n = 4 ∨ n = 5 ∨ n = 6 ∨ n = 7 ∨ n = 8 ∨ n = 9 ∨ n = 10 ∨ n = 11 ∨ n = 12 := by omega
  rcases this with rfl | rfl | rfl | rfl | rfl | rfl | rfl | rfl | rfl | rfl | rfl | rfl | rfl <;> decide
 rw [this]; exact c182 n h
end Go.Sim
set_option maxRecDepth 10000
namespace Go.Sim
open Go.Proofs
def s1160 (a0 : List Int) : Option (List Int) :=
 bindO (s1176 a0 0 (List.length a0 : Int) (lenU (List.length a0 : Int))) fun r1 => some r1
theorem c1160 (a0 : List Int) {R : List Int} {N0 : Nat} (hN0 : List.length a0 = N0) (hB : (List.length a0 : Int) ≤ 12) (hR : s1160 a0 = some R) : ConB (EG glT) 83 [.osl 0 1 0 N0] [(0, .arr 3 1 (List.map cInt a0))] (G.tup []) [(0, .arr 3 1 (List.map cInt R))] := by
 unfold s1160 at hR;refine conB_of_aw Tryz.func83 rfl rfl rfl fun w0 M0 x => ?_;refine len_osl (f := cInt) (l := a0) 0 rfl fun hla0 => ?_;refine aw_seq ?_;refine aw_region [.p, .p, .p] ?_;refine st rfl rfl (eff_moveO rfl rfl) rfl ?_;refine st rfl rfl (eff_lenON hN0 rfl Tryz.underlying51 rfl) rfl ?_;refine st rfl rfl (eff_assigng rfl rfl) rfl ?_;refine st_nil ?_;obtain ⟨r1, br1, hR⟩ := bindO_inv hR;refine aw_region [.p, .p, .p, .p, .p, .w] ?_;refine st rfl rfl (eff_moveO rfl rfl) rfl ?_;refine st rfl rfl (eff_moveg rfl rfl) rfl ?_;refine st rfl rfl (eff_moveg rfl rfl) rfl ?_;refine st rfl rfl (eff_conv rfl Tryz.underlying3 Tryz.underlying142 rfl) rfl ?_;refine st rfl rfl (eff_call rfl K182 rfl (Con.lend (c182w (List.length a0 : Int) (by omega))) (ag_cons rfl ag_nil)) rfl ?_;refine st_w rfl rfl (eff_callB1 0 0 rfl K1176 rfl (ConB.lend (c1176 a0 0 (List.length a0 : Int) (lenU (List.length a0 : Int)) hN0 (by first | assumption | omega | (simp [copyL_len]; done) | (simp [copyL_len]; omega)) (by first | assumption | omega | (simp [copyL_len]; done) | (simp [copyL_len]; omega)) (by first | assumption | omega | (simp [copyL_len]; done) | (simp [copyL_len]; omega)) (by first | assumption | omega | (simp [copyL_len]; done) | (simp [copyL_len]; omega)) br1)) (at_cons rfl rfl (at_cons rfl rfl (at_cons rfl rfl (at_cons rfl rfl at_nil)))) rfl rfl rfl) rfl ?_;refine st_nil ?_;obtain rfl := Option.some.inj hR;show ResOk _ _ _ _ ∧ MemL _ _;exact ⟨res0 rfl, ⟨rfl, trivial⟩⟩
theorem len1160 {a0 : List Int} {R : List Int} (h : s1160 a0 = some R) : R.length = a0.length := by
 unfold s1160 at h;obtain ⟨y1, h1, h⟩ := bindO_inv h
 cases h
 exact len1176 h1
section
variable {α : Type}
def insB (lt : α → α → Bool) (x : α) : List α → List α
 | [] => [x]
 | y :: r => bif lt x y then y :: insB lt x r else x :: y :: r
def insS (lt : α → α → Bool) : List α → List α → List α
 | P, [] => P.reverse
 | P, x :: l => insS lt (insB lt x P) l
def isort (lt : α → α → Bool) (l : List α) : List α := insS lt [] l
theorem insB_perm (lt : α → α → Bool) (x : α) : ∀ P, (insB lt x P).Perm (x :: P)
 | [] => List.Perm.refl _
 | y :: r => by
  rw [insB]
  cases lt x y with
  | true => exact ((insB_perm lt x r).cons y).trans (List.Perm.swap x y r)
  | false => exact List.Perm.refl _
theorem insB_len (lt : α → α → Bool) (x : α) (P : List α) : (insB lt x P).length = P.length + 1 := (insB_perm lt x P).length_eq
theorem insS_perm (lt : α → α → Bool) : ∀ (l P : List α), (insS lt P l).Perm (P ++ l)
 | [], P => by rw [insS, List.append_nil]; exact List.reverse_perm P
 | x :: l, P => by
  rw [insS];refine (insS_perm lt l _).trans ?_;refine ((insB_perm lt x P).append_right l).trans ?_;exact List.perm_middle.symm
theorem isort_perm (lt : α → α → Bool) (l : List α) : (isort lt l).Perm l := insS_perm lt l []
theorem insB_sorted {lt : α → α → Bool} {Rel : α → α → Prop} (tr : ∀ a b c, Rel a b → Rel b c → Rel a c) {x : α} : ∀ {P : List α}, P.Pairwise (fun a b => Rel b a) → (∀ y ∈ P, (lt x y = true → Rel x y) ∧ (lt x y = false → Rel y x)) → (insB lt x P).Pairwise (fun a b => Rel b a)
 | [], _, _ => by rw [insB]; exact List.pairwise_singleton _ _
 | y :: r, hP, hx => by
  rw [insB];have h1 := List.pairwise_cons.1 hP
  cases hl : lt x y with
  | true =>
   refine List.pairwise_cons.2 ⟨fun z hz => ?_, insB_sorted tr h1.2 fun y hy => hx y (List.mem_cons_of_mem _ hy)⟩
   rcases List.mem_cons.1 ((insB_perm lt x r).mem_iff.1 hz) with rfl | hz
   ·exact (hx y List.mem_cons_self).1 hl
   ·exact h1.1 z hz
  | false =>
   refine List.pairwise_cons.2 ⟨fun z hz => ?_, hP⟩;have h2 := (hx y List.mem_cons_self).2 hl
   rcases List.mem_cons.1 hz with rfl | hz
   ·exact h2
   ·exact tr z y x (h1.1 z hz) h2
theorem insS_sorted {lt : α → α → Bool} {Rel : α → α → Prop} (tr : ∀ a b c, Rel a b → Rel b c → Rel a c) : ∀ {l P : List α}, P.Pairwise (fun a b => Rel b a) → (∀ y ∈ P, ∀ x ∈ l, (lt x y = true → Rel x y) ∧ (lt x y = false → Rel y x)) →
  l.Pairwise (fun y x => (lt x y = true → Rel x y) ∧ (lt x y = false → Rel y x)) → (insS lt P l).Pairwise Rel
 | [], P, hP, _, _ => by rw [insS]; exact List.pairwise_reverse.2 hP
 | x :: l, P, hP, hx, hl => by
  rw [insS];have h1 := List.pairwise_cons.1 hl;refine insS_sorted tr (insB_sorted tr hP fun y hy => hx y hy x List.mem_cons_self) (fun y hy z hz => ?_) h1.2
  rcases List.mem_cons.1 ((insB_perm lt x P).mem_iff.1 hy) with rfl | hy
  ·exact h1.1 z hz
  ·exact hx y hy z (List.mem_cons_of_mem _ hz)
theorem isort_sorted {lt : α → α → Bool} {Rel : α → α → Prop} (tr : ∀ a b c, Rel a b → Rel b c → Rel a c) {l : List α} (hl : l.Pairwise (fun y x => (lt x y = true → Rel x y) ∧ (lt x y = false → Rel y x))) : (isort lt l).Pairwise Rel :=
 insS_sorted tr List.Pairwise.nil (fun y hy => by cases hy) hl
theorem ixO_app {P B : List α} {x : α} : ixO (P ++ x :: B) (P.length : Int) = some x := by
 unfold ixO;rw [decide_eq_true (by omega)]
 simp
theorem ixO_app' {P B : List α} {x : α} {n : Int} (h : n = (P.length : Int)) : ixO (P ++ x :: B) n = some x := by rw [h]; exact ixO_app
theorem set_app {P B : List α} {x y : α} {n : Nat} (h : n = P.length) : List.set (P ++ x :: B) n y = P ++ y :: B := by
 subst h;rw [List.set_append_right _ _ (Nat.le_refl _), Nat.sub_self, List.set_cons_zero]
end
theorem f89_k : ∀ (l : List Int) (k k' : Nat), s89_l1 l k = s89_l1 l k'
 | [], _, _ => rfl
 | x :: l, k, k' => by simp only [s89_l1]; rw [f89_k l (k + 1) (k' + 1)]
theorem s89_nil : s89 [] = 0 := rfl
theorem s89_cons (x : Int) (l : List Int) : s89 (x :: l) = if x = 0 then s89 l else x := by
 unfold s89;simp only [s89_l1];rw [f89_k l (0 + 1) 0]
 by_cases h : x = 0 <;> simp [h]
theorem f1085_k : ∀ (l : List Int) (k : Nat), s1085_l1 l k = s89_l1 l k
 | [], _ => rfl
 | x :: l, k => by simp only [s1085_l1, s89_l1]; rw [f1085_k l (k + 1)]
theorem s1085_eq (l : List Int) : s1085 l = s89 l := f1085_k l 0
theorem s1088_eq (a b c : Int) : s1088 a b c = s90 a b c := rfl
theorem s155_eq (a b c : Int) : s155 a b c = s90 a b c := rfl
theorem s1098_eq (a : Int) : s1098 a = s96 a := rfl
theorem s90_ite (a b c : Int) : s90 a b c = if b ≤ a ∧ a ≤ c then 0 else 3 := by
 unfold s90
 by_cases h1 : a < b <;> by_cases h2 : c < a <;> simp [h1, h2] <;> omega
theorem s1086_ite (b : Bool) (e : Int) : s1086 b e = if b = true then e else 0 := by cases b <;> rfl
theorem decode_lo {s : ByteArray} {i : Nat} (h : (s.get! i).toNat < 128) : Utf8.decode s i = ((s.get! i).toNat, 1) := by
 unfold Utf8.decode
 simp [h]
theorem decode_hi {s : ByteArray} {i : Nat} (h : 128 ≤ (s.get! i).toNat) : 128 ≤ (Utf8.decode s i).1 := by
 unfold Utf8.decode;simp only [Nat.add_zero];rw [if_neg (by omega)]
 repeat' split
 all_goals first | assumption | (simp [Utf8.runeError]; done) | (rename_i h2; simp only [Bool.and_eq_true, decide_eq_true_eq] at h2; have h3 := h2.1; dsimp only; omega)
theorem get_toList {s : ByteArray} {i : Nat} (h : i < s.data.toList.length) : s.get! i = s.data.toList[i] := by
 have h' : i < s.data.size := by simpa using h
 show s.data[i]! = _;rw [getElem!_pos s.data i h']
 simp
theorem name_loop (s : ByteArray) : ∀ n pos, s.size ≤ pos + n → s147_l1 (runesF s n pos) = s91_l1 (s.data.toList.drop pos) pos := by
 intro n
 induction n with
 | zero =>
  intro pos h;rw [List.drop_eq_nil_of_le (by simpa using h)]; rfl
 | succ n ih =>
  intro pos h;unfold runesF
  split
  ·rename_i hp
   have hl : pos < s.data.toList.length := by simpa using hp
   rw [List.drop_eq_getElem_cons hl, s147_l1, s91_l1, ← get_toList hl]
   rcases Nat.lt_or_ge (s.get! pos).toNat 128 with hb | hb
   ·rw [decode_lo hb, ih (pos + 1) (by omega)];have e1 : (decide (((pos : Nat) : Int) = 0)) = decide ((pos : Int) = 0) := rfl;dsimp only;rw [Bool.or_comm ((decide ((65 : Int) ≤ _)) && _)]
   ·have hb2 := decode_hi hb
    have c1 : (!(((decide ((65 : Int) ≤ ((Utf8.decode s pos).1 : Int))) && (decide (((Utf8.decode s pos).1 : Int) ≤ 90))) || ((decide ((97 : Int) ≤ ((Utf8.decode s pos).1 : Int))) && (decide (((Utf8.decode s pos).1 : Int) ≤ 122))))) = true := by
     simp; omega
    have c2 : (!(((decide ((97 : Int) ≤ ((s.get! pos).toNat : Int))) && (decide (((s.get! pos).toNat : Int) ≤ 122))) || ((decide ((65 : Int) ≤ ((s.get! pos).toNat : Int))) && (decide (((s.get! pos).toNat : Int) ≤ 90))))) = true := by
     simp; omega
    dsimp only;rw [c1, c2]
    have d1 : (decide (((Utf8.decode s pos).1 : Int) ≠ 95) && (decide (((Utf8.decode s pos).1 : Int) < 48) || decide (57 < ((Utf8.decode s pos).1 : Int)))) = true := by simp; omega
    have d2 : (decide (((s.get! pos).toNat : Int) ≠ 95) && (decide (((s.get! pos).toNat : Int) < 48) || decide (57 < ((s.get! pos).toNat : Int)))) = true := by simp; omega
    rw [d1, d2]; simp
  ·rename_i hp
   rw [List.drop_eq_nil_of_le (by simpa using hp)]; rfl
theorem name_eq (s : ByteArray) : s147 s = s91 s := by
 unfold s147 s91 runes;rw [name_loop s _ 0 (by omega)]; rfl
theorem ixO_at {α : Type} {l : List α} {i : Nat} (h : i < l.length) : ixO l (i : Int) = some l[i] := by
 unfold ixO; rw [decide_eq_true (by omega), cond_true]; simp [h]
theorem s89_zero : ∀ (l : List Int), s89 l = 0 ↔ ∀ x ∈ l, x = 0
 | [] => by simp [s89_nil]
 | x :: l => by
  rw [s89_cons]
  by_cases h : x = 0
  ·simp [h, s89_zero l]
  ·simp [h]
theorem s90_zero (a b c : Int) : s90 a b c = 0 ↔ b ≤ a ∧ a ≤ c := by rw [s90_ite]; split <;> simp_all
theorem s96_zero (a : Int) : s96 a = 0 ↔ 0 ≤ a ∧ a ≤ 143999999 := s90_zero _ _ _
theorem s1086_zero (b : Bool) (e : Int) (he : e ≠ 0) : s1086 b e = 0 ↔ b = false := by rw [s1086_ite]; cases b <;> simp [he]
structure TurnOk (t : S1124) : Prop where
 s0 : 0 ≤ t.Start
 se : t.Start ≤ t.End
 e1 : t.End ≤ 143999999
 z0 : 1 ≤ t.Size
 z1 : t.Size ≤ 9
 nm : s91 t.Name = true
theorem turns_all (a : List S1124) : ∀ t k, s1094_l1 a s1095 t k = 0 → ∀ y ∈ t, TurnOk y
 | [], _, _, y, hy => by cases hy
 | z :: t, k, h, y, hy => by
  rw [s1094_l1] at h
  by_cases h0 : s1095 z (List.take (Int.toNat ((k : Nat) : Int)) a) = 0
  ·rw [h0] at h
   rcases List.mem_cons.1 hy with rfl | hy
   ·unfold s1095 at h0;rw [s1085_eq, s89_zero] at h0;simp only [List.mem_cons, List.not_mem_nil, or_false, forall_eq_or_imp, forall_eq] at h0;obtain ⟨g1, _, g3, g4, g5, g6, _⟩ := h0;rw [s1086_zero _ _ (by decide), name_eq] at g1;rw [s1098_eq, s96_zero] at g3 g4;rw [s1086_zero _ _ (by decide)] at g5;rw [s1088_eq, s90_zero] at g6
    simp at g1 g5
    exact ⟨g3.1, g5, g4.2, g6.1, g6.2, g1⟩
   ·exact turns_all a t (k + 1) (by simpa using h) y hy
  ·rw [decide_eq_true h0, cond_true] at h; exact absurd h h0
theorem turns_ok {l : List S1124} (h : s1025 l = 0) : l.length ≤ 256 ∧ ∀ y ∈ l, TurnOk y := by
 unfold s1025 s1094 at h
 cases hc : decide ((256 : Int) < (List.length l : Int))
 ·rw [hc] at h;exact ⟨by have := of_decide_eq_false hc; omega, turns_all l l 0 h⟩
 ·rw [hc] at h; simp at h
structure StandOk (t : S1122) : Prop where
 z0 : 1 ≤ t.Size
 z1 : t.Size ≤ 9
 nm : s91 t.Name = true
theorem stands_all (a : List S1122) : ∀ t k, s1081_l1 a s1082 t k = 0 → ∀ y ∈ t, StandOk y
 | [], _, _, y, hy => by cases hy
 | z :: t, k, h, y, hy => by
  rw [s1081_l1] at h
  by_cases h0 : s1082 z (List.take (Int.toNat ((k : Nat) : Int)) a) = 0
  ·rw [h0] at h
   rcases List.mem_cons.1 hy with rfl | hy
   ·unfold s1082 at h0;rw [s1085_eq, s89_zero] at h0;simp only [List.mem_cons, List.not_mem_nil, or_false, forall_eq_or_imp, forall_eq] at h0;obtain ⟨g1, _, g6, _⟩ := h0;rw [s1086_zero _ _ (by decide), name_eq] at g1;rw [s1088_eq, s90_zero] at g6
    simp at g1
    exact ⟨g6.1, g6.2, g1⟩
   ·exact stands_all a t (k + 1) (by simpa using h) y hy
  ·rw [decide_eq_true h0, cond_true] at h; exact absurd h h0
theorem stands_ok {l : List S1122} (h : s1023 l = 0) : l.length ≤ 32 ∧ ∀ y ∈ l, StandOk y := by
 unfold s1023 s1081 at h
 cases hc : decide ((32 : Int) < (List.length l : Int))
 ·rw [hc] at h;exact ⟨by have := of_decide_eq_false hc; omega, stands_all l l 0 h⟩
 ·rw [hc] at h; simp at h
structure MovOk (m : S1079) : Prop where
 m0 : 0 ≤ m.Moment
 m1 : m.Moment ≤ 143999999
 s0 : 0 ≤ m.Seats
 s1 : m.Seats ≤ 999
 n0 : 0 ≤ m.Noise
 n1 : m.Noise ≤ 99
 kd : m.Kind = ⟨#[65]⟩ ∨ m.Kind = ⟨#[68]⟩
 nm : s91 m.Name = true
structure SeatOk (x : S1063) : Prop where
 l0 : 1 ≤ x.Length
 l1 : x.Length ≤ 1440
 s0 : 1 ≤ x.Step
 s1 : x.Step ≤ x.Length
 m0 : 0 ≤ x.Most
 m1 : x.Most ≤ 999999999
 kd : x.Kind = ⟨#[65]⟩ ∨ x.Kind = ⟨#[68]⟩ ∨ x.Kind = ⟨#[84]⟩
theorem alike_sym (a b : ByteArray) : s1126 a b = s1127 b a := by
 unfold s1126 s1127
 by_cases h1 : a = b
 ·subst h1; simp
 ·have h2 : ¬ b = a := fun h => h1 h.symm;simp only [h1, h2, decide_false, Bool.false_or];rw [Bool.or_comm]
theorem suits_eq (t : S1124) (s : S1122) : s1128 t s = s1068 s t := by unfold s1128 s1068; rw [alike_sym]
theorem end_wrap {e b : Int} (h0 : 0 ≤ e) (h1 : e ≤ 143999999) (h2 : 0 ≤ b) (h3 : b ≤ 240) : IntKind.i64.wrap (e + b) = e + b := wrap_i64 (by unfold I64; omega)
theorem overlap_eq {a c : S1124} {b : Int} (ha : TurnOk a) (hc : TurnOk c) (h2 : 0 ≤ b) (h3 : b ≤ 240) : s1130 a c b = s1070 a c b := by
 unfold s1130 s1070 s1131;have := ha.s0; have := ha.se; have := ha.e1; have := hc.s0; have := hc.se; have := hc.e1;rw [end_wrap (by omega) (by omega) h2 h3, end_wrap (by omega) (by omega) h2 h3, end_wrap (by omega) (by omega) h2 h3];rw [Bool.eq_iff_iff]
 simp
 omega
theorem cp_l2_len (a0 : List Int) (x1 : Int) : ∀ (k : Nat) (x5 x6 : Int) (x7 : List Int) (R : List Int × Nat), s1161_l2 a0 x1 k x5 x6 x7 = some R → x7.length = a0.length → 0 ≤ x1 → 1 ≤ x6 → x5 ≤ x1 + x6 - 1 → x1 + x6 ≤ (a0.length : Int) → R.2 ≤ R.1.length
 | 0, _, _, _, _, h, _, _, _, _, _ => by rw [s1161_l2] at h; cases h
 | k + 1, x5, x6, x7, R, h, q1, q2, q3, q4, q5 => by
  rw [s1161_l2] at h
  cases hc : decide (x6 < (((List.length a0) - (Int.toNat x1) : Nat) : Int)) with
  | true =>
   have h := condT h hc;have hc := of_decide_eq_true hc;obtain ⟨y1, _, h⟩ := bindO_inv h;obtain ⟨y2, _, h⟩ := bindO_inv h
   cases hd : decide (y1 ≠ y2) with
   | true =>
    have h := condT h hd;obtain ⟨y3, _, h⟩ := bindO_inv h;obtain ⟨y4, _, h⟩ := bindO_inv h;exact cp_l2_len a0 x1 k _ _ _ _ h (by rw [List.length_set]; exact q1) q2 (by omega) (by omega) (by omega)
   | false =>
    have h := condF h hd;exact cp_l2_len a0 x1 k _ _ _ _ h q1 q2 (by omega) (by omega) (by omega)
  | false =>
   have h := condF h hc
   cases h
   show Int.toNat x5 ≤ (List.take (Int.toNat x5) x7).length;rw [List.length_take]; omega
theorem cp_l1_len (a0 : List Int) : ∀ (k : Nat) (x1 : Int) (R : List Int × Nat), s1161_l1 a0 k x1 = some R → 1 ≤ x1 → R.2 ≤ R.1.length
 | 0, _, _, h, _ => by rw [s1161_l1] at h; cases h
 | k + 1, x1, R, h, q => by
  rw [s1161_l1] at h
  cases hc : decide (x1 < (List.length a0 : Int)) with
  | true =>
   have h := condT h hc;have hc := of_decide_eq_true hc;obtain ⟨y1, _, h⟩ := bindO_inv h;obtain ⟨y2, _, h⟩ := bindO_inv h
   cases hd : decide (y1 = y2) with
   | true => exact cp_l2_len a0 x1 _ _ _ _ _ (condT h hd) rfl (by omega) (by decide) (by omega) (by omega)
   | false => exact cp_l1_len a0 k _ _ (condF h hd) (by omega)
  | false =>
   have h := condF h hc
   cases h
   exact Nat.le_refl _
theorem give1161 {a0 : List Int} {R : List Int × Nat} (h : s1161 a0 = some R) : R.2 ≤ R.1.length := by
 unfold s1161 at h
 cases hc : decide ((List.length a0 : Int) < 2) with
 | true => have h := condT h hc; cases h; exact Nat.le_refl _
 | false => exact cp_l1_len a0 _ _ _ (condF h hc) (by decide)
theorem take_succ_get {l : List Int} {n : Nat} (h : n < l.length) : l.take (n + 1) = l.take n ++ [l[n]] := by
 rw [List.take_succ, List.getElem?_eq_getElem h]; rfl
theorem cp_l2_ok {l : List Int} (hl : l.Pairwise (· ≤ ·)) (p : Nat) (hp : 1 ≤ p) : ∀ (f k j : Nat) (c : List Int), c.length = l.length → c.drop (p + j - 1) = l.drop (p + j - 1) → 1 ≤ j → k ≤ p + j - 1 → p + j ≤ l.length →
  (c.take k).Pairwise (· ≤ ·) → (∀ x, x ∈ c.take k ↔ x ∈ l.take (p + j)) → l.length - (p + j) < f →
  ∃ R, s1161_l2 l (p : Int) f (k : Int) (j : Int) c = some R ∧ (R.1.take R.2).Pairwise (· ≤ ·) ∧ ∀ x, x ∈ R.1.take R.2 ↔ x ∈ l
 | 0, _, _, _, _, _, _, _, _, _, _, h => by omega
 | f + 1, k, j, c, q1, q2, q3, q4, q5, q6, q7, q8 => by
  rw [s1161_l2];have e0 : Int.toNat (p : Int) = p := Int.toNat_natCast p;rw [e0]
  by_cases hc : j < l.length - p
  ·rw [decide_eq_true (by omega : (j : Int) < ((l.length - p : Nat) : Int)), cond_true]
   have hlt : p + j < l.length := by omega
   have g0 : ∀ i, p + j - 1 ≤ i → c[i]? = l[i]? := fun i hi => by
    have := congrArg (fun z : List Int => z[i - (p + j - 1)]?) q2;simp only [List.getElem?_drop] at this
    rwa [show p + j - 1 + (i - (p + j - 1)) = i by omega] at this
   have r1 : ixO (List.drop p c) (j : Int) = some l[p + j] := by
    unfold ixO;rw [decide_eq_true (by omega), cond_true, Int.toNat_natCast, List.getElem?_drop, g0 _ (by omega), List.getElem?_eq_getElem hlt]
   have hlt2 : p + j - 1 < l.length := by omega
   have r2 : ixO (List.drop p c) ((j : Int) - 1) = some l[p + j - 1] := by
    unfold ixO;rw [decide_eq_true (by omega), cond_true, show Int.toNat ((j : Int) - 1) = j - 1 by omega, List.getElem?_drop, show p + (j - 1) = p + j - 1 by omega, g0 _ (Nat.le_refl _), List.getElem?_eq_getElem hlt2]
   rw [r1, r2];simp only [bindO]
   have e1 : (j : Int) + 1 = ((j + 1 : Nat) : Int) := by push_cast; rfl
   have hk : k < c.length := by omega
   have r3 : ixO c (k : Int) = some c[k] := by
    unfold ixO;rw [decide_eq_true (by omega), cond_true, Int.toNat_natCast, List.getElem?_eq_getElem hk]
   by_cases hd : l[p + j] = l[p + j - 1]
   ·rw [decide_eq_false (by simpa using hd), cond_false];unfold s1161_j1;dsimp only;rw [e1];refine cp_l2_ok hl p hp f k (j + 1) c q1 ?_ (by omega) (by omega) (by omega) q6 (fun x => ?_) (by omega)
    ·have := congrArg (List.drop 1) q2;rw [List.drop_drop, List.drop_drop] at this
     rwa [show p + j - 1 + 1 = p + (j + 1) - 1 by omega] at this
    ·rw [q7, show p + (j + 1) = p + j + 1 by omega, take_succ_get hlt, List.mem_append, List.mem_singleton];refine ⟨.inl, fun h => h.elim id fun h => ?_⟩;rw [h, hd];exact List.mem_take_iff_getElem.2 ⟨p + j - 1, by omega, rfl⟩
   ·rw [decide_eq_true hd, cond_true, r3];simp only [bindO];unfold s1161_j1;dsimp only;rw [e1, show (k : Int) + 1 = ((k + 1 : Nat) : Int) by push_cast; rfl, Int.toNat_natCast]
    have tk : (c.set k l[p + j]).take (k + 1) = c.take k ++ [l[p + j]] := by
     rw [List.take_succ, List.take_set_of_le (Nat.le_refl k), List.getElem?_set_self hk]; rfl
    refine cp_l2_ok hl p hp f (k + 1) (j + 1) _ (by rw [List.length_set]; exact q1) ?_ (by omega) (by omega) (by omega) ?_ (fun x => ?_) (by omega)
    ·rw [List.drop_set_of_lt (by omega)];have := congrArg (List.drop 1) q2;rw [List.drop_drop, List.drop_drop] at this
     rwa [show p + j - 1 + 1 = p + (j + 1) - 1 by omega] at this
    ·rw [tk, List.pairwise_append];refine ⟨q6, List.pairwise_singleton _ _, fun a ha b hb => ?_⟩;rw [List.mem_singleton.1 hb];have ha := (q7 a).1 ha;obtain ⟨i, hi, rfl⟩ := List.mem_take_iff_getElem.1 ha;exact List.pairwise_iff_getElem.1 hl i (p + j) (by omega) hlt (by omega)
    ·rw [tk, List.mem_append, q7, show p + (j + 1) = p + j + 1 by omega, take_succ_get hlt, List.mem_append]
  ·rw [decide_eq_false (by omega : ¬ (j : Int) < ((l.length - p : Nat) : Int)), cond_false];refine ⟨_, rfl, ?_, fun x => ?_⟩
   ·show ((List.take (Int.toNat (k : Int)) c).take (Int.toNat (k : Int))).Pairwise _;rw [Int.toNat_natCast, List.take_take, Nat.min_self]; exact q6
   ·show x ∈ (List.take (Int.toNat (k : Int)) c).take (Int.toNat (k : Int)) ↔ _;rw [Int.toNat_natCast, List.take_take, Nat.min_self, q7, List.take_of_length_le (by omega)]
theorem cp_l1_ok {l : List Int} (hl : l.Pairwise (· ≤ ·)) : ∀ (f p : Nat), 1 ≤ p → p ≤ l.length → l.length - p < f →
  ∃ R, s1161_l1 l f (p : Int) = some R ∧ (R.1.take R.2).Pairwise (· ≤ ·) ∧ ∀ x, x ∈ R.1.take R.2 ↔ x ∈ l
 | 0, _, _, _, h => by omega
 | f + 1, p, q1, q2, q3 => by
  rw [s1161_l1]
  by_cases hc : p < l.length
  ·rw [decide_eq_true (by omega : (p : Int) < (l.length : Int)), cond_true]
   have r1 : ixO l (p : Int) = some l[p] := by
    unfold ixO;rw [decide_eq_true (by omega), cond_true, Int.toNat_natCast, List.getElem?_eq_getElem hc]
   have hlt2 : p - 1 < l.length := by omega
   have r2 : ixO l ((p : Int) - 1) = some l[p - 1] := by
    unfold ixO;rw [decide_eq_true (by omega), cond_true, show Int.toNat ((p : Int) - 1) = p - 1 by omega, List.getElem?_eq_getElem hlt2]
   rw [r1, r2];simp only [bindO]
   by_cases hd : l[p] = l[p - 1]
   ·rw [decide_eq_true hd, cond_true];refine cp_l2_ok hl p q1 _ p 1 l rfl rfl (Nat.le_refl _) (by omega) (by omega) (hl.sublist (List.take_sublist _ _)) (fun x => ?_) (by omega);rw [take_succ_get hc, List.mem_append, List.mem_singleton];refine ⟨.inl, fun h => h.elim id fun h => ?_⟩;rw [h, hd];exact List.mem_take_iff_getElem.2 ⟨p - 1, by omega, rfl⟩
   ·rw [decide_eq_false hd, cond_false, show (p : Int) + 1 = ((p + 1 : Nat) : Int) by push_cast; rfl];exact cp_l1_ok hl f (p + 1) (by omega) (by omega) (by omega)
  ·rw [decide_eq_false (by omega : ¬ (p : Int) < (l.length : Int)), cond_false];refine ⟨_, rfl, ?_, fun x => ?_⟩
   ·show (l.take l.length).Pairwise _; rw [List.take_length]; exact hl
   ·show x ∈ l.take l.length ↔ _; rw [List.take_length]
theorem cp_ok {l : List Int} (hl : l.Pairwise (· ≤ ·)) : ∃ R, s1161 l = some R ∧ (R.1.take R.2).Pairwise (· ≤ ·) ∧ ∀ x, x ∈ R.1.take R.2 ↔ x ∈ l := by
 unfold s1161
 by_cases hc : (l.length : Int) < 2
 ·rw [decide_eq_true hc, cond_true];refine ⟨_, rfl, ?_, fun x => ?_⟩
  ·show (l.take l.length).Pairwise _; rw [List.take_length]; exact hl
  ·show x ∈ l.take l.length ↔ _; rw [List.take_length]
 ·rw [decide_eq_false hc, cond_false];exact cp_l1_ok hl _ 1 (Nat.le_refl _) (by omega) (by omega)
theorem s1196_l2_ok (rec1 : Int → List Int → Option (List Int)) (x1 : Int) (x : Int) : ∀ (P B : List Int) (k : Nat), P.length < k →
  s1196_l2 rec1 0 x1 k (P.length : Int) (P.reverse ++ x :: B) = rec1 (x1 + 1) ((insB s1194 x P).reverse ++ B)
 | [], B, 0, h => by omega
 | [], B, k + 1, h => by
  rw [s1196_l2]
  have e : decide ((0 : Int) < (([] : List Int).length : Int)) = false := by simp
  simp only [e, cond_false, bindO, Bool.false_and, insB]
  simp
 | y :: r, B, 0, h => by omega
 | y :: r, B, k + 1, h => by
  have e : decide ((0 : Int) < ((y :: r).length : Int)) = true := by simp <;> omega
  have l1 : (y :: r).reverse ++ x :: B = (r.reverse ++ [y]) ++ x :: B := by simp
  have l2 : (r.reverse ++ [y]) ++ x :: B = r.reverse ++ y :: (x :: B) := by simp
  have i1 : ixO ((r.reverse ++ [y]) ++ x :: B) ((y :: r).length : Int) = some x := ixO_app' (by simp)
  have i2 : ixO ((r.reverse ++ [y]) ++ x :: B) (((y :: r).length : Int) - 1) = some y := by rw [l2]; exact ixO_app' (by simp)
  rw [s1196_l2, l1];simp only [e, cond_true, i1, i2, bindO, Bool.true_and]
  cases hl : s1194 x y with
  | true =>
   have e1 : List.set ((r.reverse ++ [y]) ++ x :: B) (Int.toNat ((y :: r).length : Int)) y = (r.reverse ++ [y]) ++ y :: B := set_app (by simp)
   have e2 : List.set ((r.reverse ++ [y]) ++ y :: B) (Int.toNat (((y :: r).length : Int) - 1)) x = r.reverse ++ x :: (y :: B) := by
    rw [show (r.reverse ++ [y]) ++ y :: B = r.reverse ++ y :: (y :: B) by simp];exact set_app (by simp)
   have e3 : (((y :: r).length : Int) - 1) = (r.length : Int) := by simp
   have hih := s1196_l2_ok rec1 x1 x r (y :: B) k (by simp at h; omega)
   have i3 : ixO (List.set ((r.reverse ++ [y]) ++ x :: B) (Int.toNat ((y :: r).length : Int)) y) (((y :: r).length : Int) - 1) = some y := by
    rw [e1, show (r.reverse ++ [y]) ++ y :: B = r.reverse ++ y :: (y :: B) by simp];exact ixO_app' (by simp)
   rw [cond_true];simp only [i3];rw [e1, e2, e3, hih]
   simp [insB, hl]
  | false =>
   rw [cond_false]
   simp [insB, hl]
theorem s1196_l1_ok : ∀ (l P : List Int), s1196_l1 0 l.length (P.length : Int) (P.reverse ++ l) = some (insS s1194 P l)
 | [], P => by rw [List.length_nil, s1196_l1, insS, List.append_nil]
 | x :: l, P => by
  rw [List.length_cons, s1196_l1, s1196_l2_ok _ _ x P l _ (by omega), insS];have := s1196_l1_ok l (insB s1194 x P);rw [← this, insB_len]
  simp
theorem s1196_ok (l : List Int) : s1196 l 0 (l.length : Int) = some (isort s1194 l) := by
 unfold s1196 isort
 cases l with
 | nil => rfl
 | cons x l =>
  have e : ((((x :: l).length : Int) - (0 + 1)).toNat) = l.length := by simp
  rw [e, insS];exact s1196_l1_ok l [x]
theorem s1160_ok (l : List Int) : s1160 l = some (isort s1194 l) := by
 unfold s1160 s1176;rw [s1176_l1, s1196_ok];simp only [bindO]
section
variable {E : Env} {w0 : World} {M0 : Nat → Prop}
theorem flatI9 {l : List Int} (h : l.length = 9) : (l.map cInt).flatten = [G.int (l.getD 0 0), G.int (l.getD 1 0), G.int (l.getD 2 0), G.int (l.getD 3 0), G.int (l.getD 4 0), G.int (l.getD 5 0), G.int (l.getD 6 0), G.int (l.getD 7 0), G.int (l.getD 8 0)] := by
 match l, h with
 | [a, b, c, d, e, f, g, h, i], _ => rfl
theorem eff_loadVI {o : Oper} {mem : Mem} {ev : Operand → TV} {t e : TypeId} {x : Operand} {kk id : Nat} {l : List Int} {cs : List G} (ho : o.op = .load t x) (ht : tyK E.P t = some (kk, true)) (hx : ev x = .eptr id 1 0 0) (hb : lookO mem id = some (.arr e 1 (l.map cInt))) (hk : l.length = kk) (hc : (l.map cInt).flatten = cs) : Eff E o mem ev (.g (.agg cs)) := by
 subst hc;exact eff_loadV ho ht hx hb (by rw [List.length_map, hk, Nat.mul_one])
end
end Go.Sim
set_option maxRecDepth 10000
namespace Go.Sim
open Go.Proofs
def s1121_l1  : List S1124 → Nat → (List Int) → Option (List Int)
 | [], k3, x1 => bindO (s1160 x1) fun r6 => bindO (s1161 r6) fun r7 => some (List.take r7.2 r7.1)
 | y4 :: t5, k3, x1 => s1121_l1  t5 (k3 + 1) (x1 ++ [y4.Start])
def s1121 (a0 : List S1124) : Option (List Int) :=
 s1121_l1 a0 0 []
theorem c1121 (a0 : List S1124) {R : List Int}  (hb : a0.length ≤ 12) (hR : s1121 a0 = some R) : Con (EG glT) 35 [G.sl 5 (List.map S1124.c a0)] (G.sl 1 (List.map cInt R)) := by
 unfold s1121 at hR;refine con_of_aw Tryz.func35 rfl rfl fun w0 M0 => ?_;refine len_sl (f := S1124.c) (l := a0) 0 rfl fun hla0 => ?_;refine aw_seq ?_;refine aw_region [.p] ?_;refine st rfl rfl (eff_assigng rfl rfl) rfl ?_;refine st_nil ?_;refine aw_seq ?_;refine aw_region [.w] ?_;refine st_w rfl rfl (eff_nilL 3 3 1 rfl rfl rfl) rfl ?_;refine st_nil ?_;refine aw_seq ?_;refine aw_seq ?_;refine aw_region [.p, .p, .p] ?_;refine st rfl rfl (eff_moveg rfl rfl) rfl ?_;refine st rfl rfl (eff_lenM (f := S1124.c) (l := a0) rfl Tryz.underlying26 rfl) rfl ?_;refine st rfl rfl (eff_moveg rfl rfl) rfl ?_;refine st_nil ?_;refine aw_block ?_;refine aw_loop_g (γ := Nat × (List S1124) × (List Int)) (fun g => ([(3, .osl 3 1 0 (List.length g.2.2)), (6, .g (G.sl 5 (List.map S1124.c a0))), (7, .g (G.int (List.length a0 : Int))), (8, .g (G.int ((g.1 : Nat) : Int)))], [(3, .arr 3 1 (List.map cInt g.2.2))])) (fun g => g.2.2.length ≤ g.1 ∧ g.1 ≤ a0.length ∧ a0.drop g.1 = g.2.1 ∧ s1121_l1  g.2.1 g.1 g.2.2 = some R) (fun g => List.length g.2.1) ⟨rfl, (0, a0, []), ⟨rfl, rfl, rfl, rfl, trivial⟩, ⟨rfl, trivial⟩, rfl, ⟨(by first | (simp; done) | (simp; omega)), (by first | (simp; done) | (simp; omega)), rfl, hR⟩, trivial⟩ ?_
 ·rintro ⟨k3, t5, x1⟩ ⟨iv1_0, iv1_1, hd, hR⟩;replace hd : a0.drop k3 = t5 := hd;replace hR : s1121_l1  t5 k3 x1 = some R := hR;replace iv1_0 : x1.length ≤ k3 := iv1_0;replace iv1_1 : k3 ≤ a0.length := iv1_1;refine aw_seq ?_;refine aw_region [.p] ?_;refine st rfl rfl (eff_lss rfl rfl rfl) rfl ?_;refine st_nil ?_;refine len_sl (f := S1124.c) (l := a0) 6 rfl fun hlz1 => ?_;refine aw_seq ?_;refine aw_cond _ rfl (fun h1 => ?_) (fun h1 => ?_)
  ·replace h1 : (decide (((k3 : Nat) : Int) < (List.length a0 : Int))) = true := h1;obtain ⟨y4, t5, rfl, hx1, hd⟩ := drop_cons hd (decT h1);replace h1 := decT h1;rw [s1121_l1] at hR;(try dsimp only at hR);refine aw_skip ?_;refine aw_seq ?_;refine aw_block ?_;refine aw_seq ?_;refine aw_region [.p, .p, .w, .w] ?_;refine st rfl rfl (eff_ix (f := S1124.c) (l := a0) (a := y4) rfl Tryz.underlying26 ty1125 rfl rfl (Int.natCast_nonneg _) hx1) rfl ?_;refine st rfl rfl (eff_loadA rfl ty1125 rfl rfl rfl) rfl ?_;refine st_w rfl rfl (eff_alloc 5 rfl z1125 rfl rfl) rfl ?_;refine st_wn rfl rfl (eff_store (tv := .g (G.agg [G.str y4.Name, G.int y4.Start, G.int y4.End, G.int y4.Size, G.str y4.Terminal])) rfl ty1125 rfl rfl rfl rfl rfl) ?_;refine st_nil ?_;refine aw_region [.p, .p, .r, .p, .k, .p] ?_;refine st rfl rfl (eff_moveO rfl rfl) rfl ?_;refine st rfl rfl (eff_fieldO rfl fl1125_1 rfl) rfl ?_;refine st_r rfl rfl (eff_loadO rfl ty3 rfl rfl rfl) rfl ?_;refine st rfl rfl (eff_buildSlice rfl Tryz.underlying51 ty3 z3 rfl (ps_cons rfl ps_nil) rfl (by simp []) (by decide)) rfl ?_;refine st_k rfl rfl (eff_appL (f := cInt) (out := x1) (new := [y4.Start]) rfl app82 rfl rfl (src_eq rfl (src_sl (by decide) (by simp []))) (refsN rfl) (by simp; omega)) rfl ?_;refine st rfl rfl (eff_assignO rfl rfl) rfl ?_;refine st_nil ?_;refine aw_region [.p, .p] ?_;refine st rfl rfl (eff_add rfl rfl rfl (by unfold I64; omega)) rfl ?_;refine st rfl rfl (eff_moveg rfl rfl) rfl ?_;refine st_nil ?_;exact ⟨rfl, (k3 + 1, t5, x1 ++ [y4.Start]), ⟨rfl, rfl, rfl, rfl, trivial⟩, ⟨rfl, trivial⟩, rfl, ⟨(by first | omega | (dsimp only; omega) | (simp at *; omega)), (by first | omega | (dsimp only; omega) | (simp at *; omega)), hd, hR⟩, by simp⟩
  ·replace h1 : (decide (((k3 : Nat) : Int) < (List.length a0 : Int))) = false := h1;obtain rfl := drop_nil hd (decF h1);rw [s1121_l1] at hR;refine aw_exit ?_;refine aw_seq ?_;obtain ⟨r6, br6, hR⟩ := bindO_inv hR;refine aw_region [.p, .w] ?_;refine st rfl rfl (eff_moveO rfl rfl) rfl ?_;refine st_w rfl rfl (eff_callB1 0 3 rfl K1160 rfl (c1160 x1 rfl (by first | assumption | omega | (simp [copyL_len]; done) | (simp [copyL_len]; omega)) br6) (at_cons rfl rfl at_nil) rfl rfl rfl) rfl ?_;refine st_nil ?_;refine aw_seq ?_;obtain ⟨r7, br7, hR⟩ := bindO_inv hR;refine aw_region [.p, .k, .p] ?_;refine st rfl rfl (eff_moveO rfl rfl) rfl ?_;refine st_k rfl rfl (eff_giveL (f0 := cInt) (l := r6) (l' := r7.1) (n := r7.2) 3 rfl K1161 rfl (c1161 r6 br7) (at_cons rfl (osl_ren ((len1160 br6).trans rfl)) at_nil) rfl (refsN rfl) (give1161 br7)) rfl ?_;refine st rfl rfl (eff_assigng rfl rfl) rfl ?_;refine st_nil ?_;refine aw_ret ?_;obtain rfl := Option.some.inj hR;exact res_c rfl (rv_g rfl)
def s1054_j1  (x1 : Int) (x2 : Int) : Option (S1106 × Int) :=
 some ((S1106.mk x1 x2), (s1086 (eqAnd [decide (x1 = 0), decide (x2 = 0)]) 7))
def s1054_l2 (rec1 : Nat → Option (S1106 × Int)) (a0 : List S1122) (a1 : List S1124) (a2 : Int) (k5 : Nat) (y6 : Int) : Nat → Int → Option (S1106 × Int)
 | 0, x8 => rec1 (k5 + 1)
 | k10 + 1, x8 => (bif (s1122 a0 a1 a2 (S1106.mk y6 (9 - x8))) then s1054_j1 y6 (9 - x8) else s1054_l2 rec1 a0 a1 a2 k5 y6 k10 (x8 + 1))
def s1054_l1 (a0 : List S1122) (a1 : List S1124) (a2 : Int) : List Int → Nat → Option (S1106 × Int)
 | [], k5 => s1054_j1 0 0
 | y6 :: t7, k5 => s1054_l2 (fun k_ => s1054_l1 a0 a1 a2 t7 k_) a0 a1 a2 k5 y6 (((9 : Int) - 0).toNat) 0
def s1054 (a0 : List S1122) (a1 : List S1124) (a2 : Int) : Option (S1106 × Int) :=
 (bif decide ((s1104 a0 a1 a2) ≠ 0) then some ((S1106.mk 0 0), (s1104 a0 a1 a2)) else bindO (s1121 a1) fun r3 => s1054_l1 a0 a1 a2 r3 0)
theorem c1054 (a0 : List S1122) (a1 : List S1124) (a2 : Int) {R : S1106 × Int}  (hb : ¬ s1104 a0 a1 a2 ≠ 0 → a1.length ≤ 12) (hR : s1054 a0 a1 a2 = some R) : Con (EG glT) 14 [G.sl 3 (List.map S1122.c a0), G.sl 5 (List.map S1124.c a1), G.int a2] (G.tup [G.agg [G.int R.1.Moment, G.int R.1.Size], G.int R.2]) := by
 unfold s1054 at hR;refine con_of_aw Tryz.func14 rfl rfl fun w0 M0 => ?_;refine len_sl (f := S1122.c) (l := a0) 0 rfl fun hla0 => ?_;refine len_sl (f := S1124.c) (l := a1) 1 rfl fun hla1 => ?_;refine aw_seq ?_;refine aw_region [.w, .p] ?_;refine st_w rfl rfl (eff_alloc 6 rfl z1107 rfl rfl) rfl ?_;refine st rfl rfl (eff_assigng rfl rfl) rfl ?_;refine st_nil ?_;refine aw_scope ?_;refine aw_seq ?_;refine aw_seq ?_;refine aw_region [.p, .p, .p, .p, .p] ?_;refine st rfl rfl (eff_moveg rfl rfl) rfl ?_;refine st rfl rfl (eff_moveg rfl rfl) rfl ?_;refine st rfl rfl (eff_moveg rfl rfl) rfl ?_;refine st rfl rfl (eff_call rfl K1104 rfl (c1104 a0 a1 a2) (ag_cons rfl (ag_cons rfl (ag_cons rfl ag_nil)))) rfl ?_;refine st rfl rfl (eff_assigng rfl rfl) rfl ?_;refine st_nil ?_;refine aw_seq ?_;refine aw_region [.p, .p] ?_;refine st rfl rfl (eff_moveg rfl rfl) rfl ?_;refine st rfl rfl (eff_neq rfl rfl rfl) rfl ?_;refine st_nil ?_;refine aw_cond _ rfl (fun h1 => ?_) (fun h1 => ?_)
 ·replace h1 : (decide ((s1104 a0 a1 a2) ≠ 0)) = true := h1;replace hR := condT hR h1;(try simp only [Bool.or_eq_true, Bool.and_eq_true, Bool.or_eq_false_iff, Bool.and_eq_false_iff, Bool.not_eq_true', Bool.not_eq_false', decide_eq_true_eq, decide_eq_false_iff_not] at h1);refine aw_seq ?_;refine aw_region [.p, .p, .w, .p] ?_;refine st rfl rfl (eff_build rfl z1107 rfl pl1107 pb_nil rfl) rfl ?_;refine st rfl rfl (eff_moveg rfl rfl) rfl ?_;refine st_wn rfl rfl (eff_store (tv := .g (G.agg [G.int 0, G.int 0])) rfl ty1107 rfl rfl rfl rfl rfl) ?_;refine st rfl rfl (eff_assigng rfl rfl) rfl ?_;refine st_nil ?_;refine aw_ret ?_;obtain rfl := Option.some.inj hR;exact resN rfl ⟨rv_cell rfl rfl ty1107 rfl rfl, rv_g rfl, trivial⟩ (by simp)
 ·replace h1 : (decide ((s1104 a0 a1 a2) ≠ 0)) = false := h1;replace hR := condF hR h1;(try simp only [Bool.or_eq_true, Bool.and_eq_true, Bool.or_eq_false_iff, Bool.and_eq_false_iff, Bool.not_eq_true', Bool.not_eq_false', decide_eq_true_eq, decide_eq_false_iff_not] at h1);have hb1 := hb h1;refine aw_skip ?_;refine aw_seq ?_;refine aw_region [.w] ?_;refine st_w rfl rfl (eff_alloc 9 rfl z1107 rfl rfl) rfl ?_;refine st_nil ?_;refine aw_seq ?_;refine aw_label ?_;refine aw_cut_g (γ := Int × Int) (fun g => ([(6, .ptr 6 0), (9, .ptr 9 0)], [(6, .box [.g (G.int 0), .g (G.int 0)]), (9, .box [.g (G.int g.1), .g (G.int g.2)])])) (fun g => s1054_j1 g.1 g.2 = some R) ?_ ?_
  ·refine aw_seq ?_;obtain ⟨r3, br3, hR⟩ := bindO_inv hR;refine aw_region [.p, .p, .p, .p] ?_;refine st rfl rfl (eff_moveg rfl rfl) rfl ?_;refine st rfl rfl (eff_call rfl K1121 rfl (c1121 a1 (by first | assumption | omega | (simp [copyL_len]; done) | (simp [copyL_len]; omega)) br3) (ag_cons rfl ag_nil)) rfl ?_;refine st rfl rfl (eff_lenM (f := cInt) (l := r3) rfl Tryz.underlying51 rfl) rfl ?_;refine st rfl rfl (eff_moveg rfl rfl) rfl ?_;refine st_nil ?_;refine aw_block ?_;refine aw_loop_g (γ := Nat × (List Int)) (fun g => ([(0, .g (G.sl 3 (List.map S1122.c a0))), (1, .g (G.sl 5 (List.map S1124.c a1))), (2, .g (G.int a2)), (6, .ptr 6 0), (9, .ptr 9 0), (23, .g (G.sl 1 (List.map cInt r3))), (24, .g (G.int (List.length r3 : Int))), (25, .g (G.int ((g.1 : Nat) : Int)))], [(6, .box [.g (G.int 0), .g (G.int 0)]), (9, .box [.g (G.int 0), .g (G.int 0)])])) (fun g => r3.drop g.1 = g.2 ∧ s1054_l1 a0 a1 a2 g.2 g.1 = some R) (fun g => List.length g.2) ⟨rfl, (0, r3), ⟨rfl, rfl, rfl, rfl, rfl, rfl, rfl, rfl, trivial⟩, ⟨rfl, rfl, trivial⟩, rfl, ⟨rfl, (by exact hR)⟩, trivial⟩ ?_
   ·rintro ⟨k5, t7⟩ ⟨hd, hR⟩;replace hd : r3.drop k5 = t7 := hd;replace hR : s1054_l1 a0 a1 a2 t7 k5 = some R := hR;refine aw_seq ?_;refine aw_region [.p] ?_;refine st rfl rfl (eff_lss rfl rfl rfl) rfl ?_;refine st_nil ?_;refine len_sl (f := cInt) (l := r3) 23 rfl fun hlz1 => ?_;refine aw_seq ?_;refine aw_cond _ rfl (fun h2 => ?_) (fun h2 => ?_)
    ·replace h2 : (decide (((k5 : Nat) : Int) < (List.length r3 : Int))) = true := h2;obtain ⟨y6, t7, rfl, hx1, hd⟩ := drop_cons hd (decT h2);replace h2 := decT h2;rw [s1054_l1] at hR;(try dsimp only at hR);refine aw_skip ?_;refine aw_seq ?_;refine aw_block ?_;refine aw_seq ?_;refine aw_region [.p, .p, .p] ?_;refine st rfl rfl (eff_ix (f := cInt) (l := r3) (a := y6) rfl Tryz.underlying51 ty3 rfl rfl (Int.natCast_nonneg _) hx1) rfl ?_;refine st rfl rfl (eff_load rfl ty3 rfl) rfl ?_;refine st rfl rfl (eff_assigng rfl rfl) rfl ?_;refine st_nil ?_;refine aw_seq ?_;refine aw_region [.p] ?_;refine st rfl rfl (eff_moveg rfl rfl) rfl ?_;refine st_nil ?_;refine aw_block ?_;refine aw_loop_g (γ := Nat × Int) (fun g => ([(0, .g (G.sl 3 (List.map S1122.c a0))), (1, .g (G.sl 5 (List.map S1124.c a1))), (2, .g (G.int a2)), (6, .ptr 6 0), (9, .ptr 9 0), (11, .g (G.int y6)), (23, .g (G.sl 1 (List.map cInt r3))), (24, .g (G.int (List.length r3 : Int))), (25, .g (G.int ((k5 : Nat) : Int))), (29, .g (G.int g.2))], [(6, .box [.g (G.int 0), .g (G.int 0)]), (9, .box [.g (G.int 0), .g (G.int 0)])])) (fun g => g.1 = ((9 : Int) - g.2).toNat ∧ 0 ≤ g.2 ∧ s1054_l2 (fun k_ => s1054_l1 a0 a1 a2 t7 k_) a0 a1 a2 k5 y6 g.1 g.2 = some R) (fun g => g.1) ⟨rfl, (((9 : Int) - 0).toNat, 0), ⟨rfl, rfl, rfl, rfl, rfl, rfl, rfl, rfl, rfl, rfl, trivial⟩, ⟨rfl, rfl, trivial⟩, rfl, ⟨rfl, (by first | omega | (dsimp only; omega) | simp), (by exact hR)⟩, trivial⟩ ?_
     ·rintro ⟨k10, x8⟩ ⟨hk2, iv2_0, hR⟩;replace hk2 : k10 = ((9 : Int) - x8).toNat := hk2;replace hR : s1054_l2 (fun k_ => s1054_l1 a0 a1 a2 t7 k_) a0 a1 a2 k5 y6 k10 x8 = some R := hR;replace iv2_0 : 0 ≤ x8 := iv2_0;refine aw_seq ?_;refine aw_region [.p] ?_;refine st rfl rfl (eff_lss rfl rfl rfl) rfl ?_;refine st_nil ?_;refine aw_seq ?_;refine aw_cond _ rfl (fun h4 => ?_) (fun h4 => ?_)
      ·replace h4 : (decide (x8 < 9)) = true := h4;replace h4 := decT h4;obtain ⟨k10, rfl⟩ : ∃ m, k10 = m + 1 := ⟨k10 - 1, by omega⟩;rw [s1054_l2] at hR;(try dsimp only at hR);refine aw_skip ?_;refine aw_seq ?_;refine aw_block ?_;refine aw_seq ?_;refine aw_region [.p, .p] ?_;refine st rfl rfl (eff_moveg rfl rfl) rfl ?_;refine st rfl rfl (eff_assigng rfl rfl) rfl ?_;refine st_nil ?_;refine aw_seq ?_;refine aw_region [.p, .p, .p, .p, .w, .w] ?_;refine st rfl rfl (eff_moveg rfl rfl) rfl ?_;refine st rfl rfl (eff_moveg rfl rfl) rfl ?_;refine st rfl rfl (eff_sub rfl rfl rfl (by unfold I64; (try dsimp only); omega)) rfl ?_;refine st rfl rfl (eff_build rfl z1107 rfl pl1107 (pb_cons rfl (pb_cons rfl pb_nil)) rfl) rfl ?_;refine st_w rfl rfl (eff_alloc 13 rfl z1107 rfl rfl) rfl ?_;refine st_wn rfl rfl (eff_store (tv := .g (G.agg [G.int y6, G.int (9 - x8)])) rfl ty1107 rfl rfl rfl rfl rfl) ?_;refine st_nil ?_;refine aw_seq ?_;refine aw_region [.p, .p, .p, .r, .p] ?_;refine st rfl rfl (eff_moveg rfl rfl) rfl ?_;refine st rfl rfl (eff_moveg rfl rfl) rfl ?_;refine st rfl rfl (eff_moveg rfl rfl) rfl ?_;refine st_r rfl rfl (eff_loadOA rfl ty1107 rfl rfl rfl rfl) rfl ?_;refine st rfl rfl (eff_call rfl K1122 rfl (c1122 a0 a1 a2 (S1106.mk y6 (9 - x8))) (ag_cons rfl (ag_cons rfl (ag_cons rfl (ag_cons rfl ag_nil))))) rfl ?_;refine st_nil ?_;refine aw_cond _ rfl (fun h6 => ?_) (fun h6 => ?_)
       ·replace h6 : ((s1122 a0 a1 a2 (S1106.mk y6 (9 - x8)))) = true := h6;replace hR := condT hR h6;(try simp only [Bool.or_eq_true, Bool.and_eq_true, Bool.or_eq_false_iff, Bool.and_eq_false_iff, Bool.not_eq_true', Bool.not_eq_false', decide_eq_true_eq, decide_eq_false_iff_not] at h6);refine aw_seq ?_;refine aw_region [.r, .w] ?_;refine st_r rfl rfl (eff_loadOA rfl ty1107 rfl rfl rfl rfl) rfl ?_;refine st_wn rfl rfl (eff_store (tv := .g (G.agg [G.int y6, G.int (9 - x8)])) rfl ty1107 rfl rfl rfl rfl rfl) ?_;refine st_nil ?_;refine aw_exit ?_;exact ⟨rfl, (y6, 9 - x8), ⟨rfl, rfl, trivial⟩, ⟨rfl, rfl, trivial⟩, rfl, hR, trivial⟩
       ·replace h6 : ((s1122 a0 a1 a2 (S1106.mk y6 (9 - x8)))) = false := h6;replace hR := condF hR h6;(try simp only [Bool.or_eq_true, Bool.and_eq_true, Bool.or_eq_false_iff, Bool.and_eq_false_iff, Bool.not_eq_true', Bool.not_eq_false', decide_eq_true_eq, decide_eq_false_iff_not] at h6);refine aw_skip ?_;refine aw_region [.p, .p] ?_;refine st rfl rfl (eff_add rfl rfl rfl (by unfold I64; (try dsimp only); omega)) rfl ?_;refine st rfl rfl (eff_moveg rfl rfl) rfl ?_;refine st_nil ?_;exact ⟨rfl, (k10, x8 + 1), ⟨rfl, rfl, rfl, rfl, rfl, rfl, rfl, rfl, rfl, rfl, trivial⟩, ⟨rfl, rfl, trivial⟩, rfl, ⟨(by first | omega | (dsimp only; omega) | (simp at *; omega)), (by first | omega | (dsimp only; omega) | (simp at *; omega)), hR⟩, by simp⟩
      ·replace h4 : (decide (x8 < 9)) = false := h4;replace h4 := decF h4
       obtain rfl : k10 = 0 := by omega
       rw [s1054_l2] at hR;refine aw_exit ?_;refine aw_region [.p, .p] ?_;refine st rfl rfl (eff_add rfl rfl rfl (by unfold I64; omega)) rfl ?_;refine st rfl rfl (eff_moveg rfl rfl) rfl ?_;refine st_nil ?_;exact ⟨rfl, (k5 + 1, t7), ⟨rfl, rfl, rfl, rfl, rfl, rfl, rfl, rfl, trivial⟩, ⟨rfl, rfl, trivial⟩, rfl, ⟨hd, hR⟩, by simp⟩
    ·replace h2 : (decide (((k5 : Nat) : Int) < (List.length r3 : Int))) = false := h2;obtain rfl := drop_nil hd (decF h2);rw [s1054_l1] at hR;refine aw_exit ?_;exact ⟨rfl, (0, 0), ⟨rfl, rfl, trivial⟩, ⟨rfl, rfl, trivial⟩, rfl, hR, trivial⟩
  ·rintro ⟨x1, x2⟩ hR;replace hR : s1054_j1 x1 x2 = some R := hR;unfold s1054_j1 at hR;refine aw_seq ?_;refine aw_freeze (l := [(6, .ptr 6 0), (9, .g (G.ref [G.int x1, G.int x2]))]) (m := [(6, .box [.g (G.int 0), .g (G.int 0)])]) 9 rfl ⟨.inl ⟨rfl, rfl⟩, .inr (frz_box rfl), trivial⟩ ⟨rfl, trivial⟩ rfl rfl ?_;refine aw_draw [.p, .p, .p, .p, .p, .w, .p] (by kernel_rfl) ?_;refine st rfl rfl (eff_loadA rfl ty1107 rfl rfl rfl) rfl ?_;refine st rfl rfl (eff_loadA rfl ty1107 rfl rfl rfl) rfl ?_;refine st rfl rfl (eff_build rfl z1107 rfl pl1107 pb_nil rfl) rfl ?_;refine st rfl rfl (eff_aeql [.int .i64 x1, .int .i64 x2] [.int .i64 0, .int .i64 0] rfl flat1107 rfl rfl rfl rfl rfl) rfl ?_;refine st rfl rfl (eff_call rfl K1086 rfl (c1086 (eqAnd [decide (x1 = 0), decide (x2 = 0)]) 7) (ag_cons rfl (ag_cons rfl ag_nil))) rfl ?_;refine st_wn rfl rfl (eff_store (tv := .g (G.agg [G.int x1, G.int x2])) rfl ty1107 rfl rfl rfl rfl rfl) ?_;refine st rfl rfl (eff_assigng rfl rfl) rfl ?_;refine st_nil ?_;refine aw_ret ?_;obtain rfl := Option.some.inj hR;exact resN rfl ⟨rv_cell rfl rfl ty1107 rfl rfl, rv_g rfl, trivial⟩ (by simp)
def s1056_l2 (rec1 : Nat → (List Int) → Option ((Int × Int × Int × Int × Int × Int × Int × Int × Int) × Int)) (a0 : List S1124) (a1 : Int) (k5 : Nat) (y6 : Int) : Nat → Int → (List Int) → Option ((Int × Int × Int × Int × Int × Int × Int × Int × Int) × Int)
 | 0, x8, x9 => rec1 (k5 + 1) x9
 | k12 + 1, x8, x9 => bindO (ixO x9 x8) fun y13 => bindO (ixO x9 x8) fun y14 => s1056_l2 rec1 a0 a1 k5 y6 k12 (x8 + 1) (List.set x9 (Int.toNat x8) (max y13 (s1124 a0 a1 y6 (x8 + 1))))
def s1056_l1 (a0 : List S1124) (a1 : Int) : List Int → Nat → (List Int) → Option ((Int × Int × Int × Int × Int × Int × Int × Int × Int) × Int)
 | [], k5, x3 => some ((List.getD x3 0 0, List.getD x3 1 0, List.getD x3 2 0, List.getD x3 3 0, List.getD x3 4 0, List.getD x3 5 0, List.getD x3 6 0, List.getD x3 7 0, List.getD x3 8 0), 0)
 | y6 :: t7, k5, x3 => s1056_l2 (fun k_ z0_ => s1056_l1 a0 a1 t7 k_ z0_) a0 a1 k5 y6 (((9 : Int) - 0).toNat) 0 x3
def s1056 (a0 : List S1124) (a1 : Int) : Option ((Int × Int × Int × Int × Int × Int × Int × Int × Int) × Int) :=
 (bif decide ((s1085 [(s1025 a0), (s1123 a1)]) ≠ 0) then some ((List.getD (List.replicate 9 0) 0 0, List.getD (List.replicate 9 0) 1 0, List.getD (List.replicate 9 0) 2 0, List.getD (List.replicate 9 0) 3 0, List.getD (List.replicate 9 0) 4 0, List.getD (List.replicate 9 0) 5 0, List.getD (List.replicate 9 0) 6 0, List.getD (List.replicate 9 0) 7 0, List.getD (List.replicate 9 0) 8 0), (s1085 [(s1025 a0), (s1123 a1)])) else bindO (s1121 a0) fun r1 => s1056_l1 a0 a1 r1 0 (List.replicate 9 0))
theorem c1056 (a0 : List S1124) (a1 : Int) {R : (Int × Int × Int × Int × Int × Int × Int × Int × Int) × Int}  (hb : ¬ s1085 [(s1025 a0), (s1123 a1)] ≠ 0 → a0.length ≤ 12) (hR : s1056 a0 a1 = some R) : Con (EG glT) 11 [G.sl 5 (List.map S1124.c a0), G.int a1] (G.tup [G.agg [G.int R.1.1, G.int R.1.2.1, G.int R.1.2.2.1, G.int R.1.2.2.2.1, G.int R.1.2.2.2.2.1, G.int R.1.2.2.2.2.2.1, G.int R.1.2.2.2.2.2.2.1, G.int R.1.2.2.2.2.2.2.2.1, G.int R.1.2.2.2.2.2.2.2.2], G.int R.2]) := by
 unfold s1056 at hR;refine con_of_aw Tryz.func11 rfl rfl fun w0 M0 => ?_;refine len_sl (f := S1124.c) (l := a0) 0 rfl fun hla0 => ?_;refine aw_seq ?_;refine aw_region [.w, .p] ?_;refine st_w rfl rfl (eff_alloc 4 rfl z1111 rfl rfl) rfl ?_;refine st rfl rfl (eff_assigng rfl rfl) rfl ?_;refine st_nil ?_;refine aw_seq ?_;refine aw_region [.w] ?_;refine st_w rfl rfl (eff_allocV (N := 9) (c := [G.int 0]) 6 rfl z1111 rfl (by decide) rfl rfl rfl) rfl ?_;refine st_nil ?_;refine aw_seq ?_;refine aw_seq ?_;refine aw_region [.p, .p, .p, .p, .p, .p, .p] ?_;refine st rfl rfl (eff_moveg rfl rfl) rfl ?_;refine st rfl rfl (eff_call rfl K1025 rfl (c1025 a0) (ag_cons rfl ag_nil)) rfl ?_;refine st rfl rfl (eff_moveg rfl rfl) rfl ?_;refine st rfl rfl (eff_call rfl K1123 rfl (c1123 a1) (ag_cons rfl ag_nil)) rfl ?_;refine st rfl rfl (eff_buildSlice rfl Tryz.underlying131 ty37 z37 rfl (ps_cons rfl (ps_cons rfl ps_nil)) rfl (by simp []) (by decide)) rfl ?_;refine st rfl rfl (eff_call rfl K1085 rfl (c1085 [(s1025 a0), (s1123 a1)]) (ag_cons rfl ag_nil)) rfl ?_;refine st rfl rfl (eff_assigng rfl rfl) rfl ?_;refine st_nil ?_;refine aw_seq ?_;refine aw_region [.p, .p] ?_;refine st rfl rfl (eff_moveg rfl rfl) rfl ?_;refine st rfl rfl (eff_neq rfl rfl rfl) rfl ?_;refine st_nil ?_;refine aw_cond _ rfl (fun h1 => ?_) (fun h1 => ?_)
 ·replace h1 : (decide ((s1085 [(s1025 a0), (s1123 a1)]) ≠ 0)) = true := h1;replace hR := condT hR h1;(try simp only [Bool.or_eq_true, Bool.and_eq_true, Bool.or_eq_false_iff, Bool.and_eq_false_iff, Bool.not_eq_true', Bool.not_eq_false', decide_eq_true_eq, decide_eq_false_iff_not] at h1);refine aw_seq ?_;refine aw_region [.r, .p, .w, .p] ?_;refine st_r rfl rfl (eff_loadVI (l := List.replicate 9 0) rfl ty1111 rfl rfl List.length_replicate (flatI9 List.length_replicate)) rfl ?_;refine st rfl rfl (eff_moveg rfl rfl) rfl ?_;refine st_wn rfl rfl (eff_store (tv := .g (G.agg [G.int (List.getD (List.replicate 9 0) 0 0), G.int (List.getD (List.replicate 9 0) 1 0), G.int (List.getD (List.replicate 9 0) 2 0), G.int (List.getD (List.replicate 9 0) 3 0), G.int (List.getD (List.replicate 9 0) 4 0), G.int (List.getD (List.replicate 9 0) 5 0), G.int (List.getD (List.replicate 9 0) 6 0), G.int (List.getD (List.replicate 9 0) 7 0), G.int (List.getD (List.replicate 9 0) 8 0)])) rfl ty1111 rfl rfl rfl rfl rfl) ?_;refine st rfl rfl (eff_assigng rfl rfl) rfl ?_;refine st_nil ?_;refine aw_ret ?_;obtain rfl := Option.some.inj hR;exact resN rfl ⟨rv_cell rfl rfl ty1111 rfl rfl, rv_g rfl, trivial⟩ (by simp)
 ·replace h1 : (decide ((s1085 [(s1025 a0), (s1123 a1)]) ≠ 0)) = false := h1;replace hR := condF hR h1;(try simp only [Bool.or_eq_true, Bool.and_eq_true, Bool.or_eq_false_iff, Bool.and_eq_false_iff, Bool.not_eq_true', Bool.not_eq_false', decide_eq_true_eq, decide_eq_false_iff_not] at h1);have hb1 := hb h1;refine aw_skip ?_;refine aw_seq ?_;refine aw_seq ?_;obtain ⟨r1, br1, hR⟩ := bindO_inv hR;refine aw_region [.p, .p, .p, .p] ?_;refine st rfl rfl (eff_moveg rfl rfl) rfl ?_;refine st rfl rfl (eff_call rfl K1121 rfl (c1121 a0 (by first | assumption | omega | (simp [copyL_len]; done) | (simp [copyL_len]; omega)) br1) (ag_cons rfl ag_nil)) rfl ?_;refine st rfl rfl (eff_lenM (f := cInt) (l := r1) rfl Tryz.underlying51 rfl) rfl ?_;refine st rfl rfl (eff_moveg rfl rfl) rfl ?_;refine st_nil ?_;refine aw_block ?_;refine aw_loop_g (γ := Nat × (List Int) × (List Int)) (fun g => ([(0, .g (G.sl 5 (List.map S1124.c a0))), (1, .g (G.int a1)), (4, .ptr 4 0), (6, .eptr 6 1 0 0), (22, .g (G.sl 1 (List.map cInt r1))), (23, .g (G.int (List.length r1 : Int))), (24, .g (G.int ((g.1 : Nat) : Int)))], [(4, .box [.g (G.int 0), .g (G.int 0), .g (G.int 0), .g (G.int 0), .g (G.int 0), .g (G.int 0), .g (G.int 0), .g (G.int 0), .g (G.int 0)]), (6, .arr 45 1 (List.map cInt g.2.2))])) (fun g => List.length g.2.2 = 9 ∧ r1.drop g.1 = g.2.1 ∧ s1056_l1 a0 a1 g.2.1 g.1 g.2.2 = some R) (fun g => List.length g.2.1) ⟨rfl, (0, r1, List.replicate 9 0), ⟨rfl, rfl, rfl, rfl, rfl, rfl, rfl, trivial⟩, ⟨rfl, rfl, trivial⟩, rfl, ⟨List.length_replicate, rfl, (by exact hR)⟩, trivial⟩ ?_
  ·rintro ⟨k5, t7, x3⟩ ⟨ln4, hd, hR⟩;replace hd : r1.drop k5 = t7 := hd;replace hR : s1056_l1 a0 a1 t7 k5 x3 = some R := hR;replace ln4 : List.length x3 = 9 := ln4;refine aw_seq ?_;refine aw_region [.p] ?_;refine st rfl rfl (eff_lss rfl rfl rfl) rfl ?_;refine st_nil ?_;refine len_sl (f := cInt) (l := r1) 22 rfl fun hlz1 => ?_;refine aw_seq ?_;refine aw_cond _ rfl (fun h2 => ?_) (fun h2 => ?_)
   ·replace h2 : (decide (((k5 : Nat) : Int) < (List.length r1 : Int))) = true := h2;obtain ⟨y6, t7, rfl, hx1, hd⟩ := drop_cons hd (decT h2);replace h2 := decT h2;rw [s1056_l1] at hR;(try dsimp only at hR);refine aw_skip ?_;refine aw_seq ?_;refine aw_block ?_;refine aw_seq ?_;refine aw_region [.p, .p, .p] ?_;refine st rfl rfl (eff_ix (f := cInt) (l := r1) (a := y6) rfl Tryz.underlying51 ty3 rfl rfl (Int.natCast_nonneg _) hx1) rfl ?_;refine st rfl rfl (eff_load rfl ty3 rfl) rfl ?_;refine st rfl rfl (eff_assigng rfl rfl) rfl ?_;refine st_nil ?_;refine aw_seq ?_;refine aw_region [.p] ?_;refine st rfl rfl (eff_moveg rfl rfl) rfl ?_;refine st_nil ?_;refine aw_block ?_;refine aw_loop_g (γ := Nat × Int × (List Int)) (fun g => ([(0, .g (G.sl 5 (List.map S1124.c a0))), (1, .g (G.int a1)), (4, .ptr 4 0), (6, .eptr 6 1 0 0), (9, .g (G.int y6)), (22, .g (G.sl 1 (List.map cInt r1))), (23, .g (G.int (List.length r1 : Int))), (24, .g (G.int ((k5 : Nat) : Int))), (28, .g (G.int g.2.1))], [(4, .box [.g (G.int 0), .g (G.int 0), .g (G.int 0), .g (G.int 0), .g (G.int 0), .g (G.int 0), .g (G.int 0), .g (G.int 0), .g (G.int 0)]), (6, .arr 45 1 (List.map cInt g.2.2))])) (fun g => g.1 = ((9 : Int) - g.2.1).toNat ∧ 0 ≤ g.2.1 ∧ List.length g.2.2 = 9 ∧ s1056_l2 (fun k_ z0_ => s1056_l1 a0 a1 t7 k_ z0_) a0 a1 k5 y6 g.1 g.2.1 g.2.2 = some R) (fun g => g.1) ⟨rfl, (((9 : Int) - 0).toNat, 0, x3), ⟨rfl, rfl, rfl, rfl, rfl, rfl, rfl, rfl, rfl, trivial⟩, ⟨rfl, rfl, trivial⟩, rfl, ⟨rfl, (by first | omega | (dsimp only; omega) | simp), ln4, (by exact hR)⟩, trivial⟩ ?_
    ·rintro ⟨k12, x8, x9⟩ ⟨hk2, iv2_0, ln10, hR⟩;replace hk2 : k12 = ((9 : Int) - x8).toNat := hk2;replace hR : s1056_l2 (fun k_ z0_ => s1056_l1 a0 a1 t7 k_ z0_) a0 a1 k5 y6 k12 x8 x9 = some R := hR;replace iv2_0 : 0 ≤ x8 := iv2_0;replace ln10 : List.length x9 = 9 := ln10;refine aw_seq ?_;refine aw_region [.p] ?_;refine st rfl rfl (eff_lss rfl rfl rfl) rfl ?_;refine st_nil ?_;refine aw_seq ?_;refine aw_cond _ rfl (fun h4 => ?_) (fun h4 => ?_)
     ·replace h4 : (decide (x8 < 9)) = true := h4;replace h4 := decT h4;obtain ⟨k12, rfl⟩ : ∃ m, k12 = m + 1 := ⟨k12 - 1, by omega⟩;rw [s1056_l2] at hR;(try dsimp only at hR);refine aw_skip ?_;refine aw_seq ?_;refine aw_block ?_;refine aw_seq ?_;refine aw_region [.p, .p] ?_;refine st rfl rfl (eff_moveg rfl rfl) rfl ?_;refine st rfl rfl (eff_assigng rfl rfl) rfl ?_;refine st_nil ?_;obtain ⟨y13, by13, hR⟩ := bindO_inv hR;obtain ⟨y14, by14, hR⟩ := bindO_inv hR;refine aw_draw [.p, .p, .p, .r, .p, .p, .p, .p, .p, .p, .p, .p, .w] (by kernel_rfl) ?_;refine st rfl rfl (eff_moveg rfl rfl) rfl ?_;refine st rfl rfl (eff_moveg rfl rfl) rfl ?_;refine st rfl rfl (eff_indexV rfl Tryz.underlying45 ty3 rfl rfl (ixO_nn by13) (Nat.lt_of_lt_of_eq (get_lt (ixO_get by13)) ln10)) rfl ?_;refine st_r rfl rfl (eff_ldE (f := cInt) (l := x9) (a := y13) rfl ty3 rfl rfl (ixO_get by13) rfl) rfl ?_;refine st rfl rfl (eff_moveg rfl rfl) rfl ?_;refine st rfl rfl (eff_moveg rfl rfl) rfl ?_;refine st rfl rfl (eff_moveg rfl rfl) rfl ?_;refine st rfl rfl (eff_moveg rfl rfl) rfl ?_;refine st rfl rfl (eff_add rfl rfl rfl (by unfold I64; (try dsimp only); omega)) rfl ?_;refine st rfl rfl (eff_call rfl K1124 rfl (c1124 a0 a1 y6 (x8 + 1)) (ag_cons rfl (ag_cons rfl (ag_cons rfl (ag_cons rfl ag_nil))))) rfl ?_;refine st rfl rfl (eff_max rfl rfl rfl) rfl ?_;refine st rfl rfl (eff_indexV rfl Tryz.underlying45 ty3 rfl rfl (ixO_nn by14) (Nat.lt_of_lt_of_eq (get_lt (ixO_get by14)) ln10)) rfl ?_;refine st_wn rfl rfl (eff_setL (f := cInt) (l := x9) (a' := max y13 (s1124 a0 a1 y6 (x8 + 1))) rfl ty3 rfl rfl rfl (Nat.lt_of_lt_of_eq (Nat.lt_of_lt_of_eq (get_lt (ixO_get by14)) ln10) (Eq.symm ln10)) rfl (fun _ => rfl)) ?_;refine st_nil ?_;refine aw_region [.p, .p] ?_;refine st rfl rfl (eff_add rfl rfl rfl (by unfold I64; (try dsimp only); omega)) rfl ?_;refine st rfl rfl (eff_moveg rfl rfl) rfl ?_;refine st_nil ?_;exact ⟨rfl, (k12, x8 + 1, List.set x9 (Int.toNat x8) (max y13 (s1124 a0 a1 y6 (x8 + 1)))), ⟨rfl, rfl, rfl, rfl, rfl, rfl, rfl, rfl, rfl, trivial⟩, ⟨rfl, rfl, trivial⟩, rfl, ⟨(by first | omega | (dsimp only; omega) | (simp at *; omega)), (by first | omega | (dsimp only; omega) | (simp at *; omega)), ((List.length_set ..).trans ln10), hR⟩, by simp⟩
     ·replace h4 : (decide (x8 < 9)) = false := h4;replace h4 := decF h4
      obtain rfl : k12 = 0 := by omega
      rw [s1056_l2] at hR;refine aw_exit ?_;refine aw_region [.p, .p] ?_;refine st rfl rfl (eff_add rfl rfl rfl (by unfold I64; omega)) rfl ?_;refine st rfl rfl (eff_moveg rfl rfl) rfl ?_;refine st_nil ?_;exact ⟨rfl, (k5 + 1, t7, x9), ⟨rfl, rfl, rfl, rfl, rfl, rfl, rfl, trivial⟩, ⟨rfl, rfl, trivial⟩, rfl, ⟨ln10, hd, hR⟩, by simp⟩
   ·replace h2 : (decide (((k5 : Nat) : Int) < (List.length r1 : Int))) = false := h2;obtain rfl := drop_nil hd (decF h2);rw [s1056_l1] at hR;refine aw_exit ?_;refine aw_seq ?_;refine aw_region [.r, .w, .p] ?_;refine st_r rfl rfl (eff_loadVI (l := x3) rfl ty1111 rfl rfl ln4 (flatI9 ln4)) rfl ?_;refine st_wn rfl rfl (eff_store (tv := .g (G.agg [G.int (List.getD x3 0 0), G.int (List.getD x3 1 0), G.int (List.getD x3 2 0), G.int (List.getD x3 3 0), G.int (List.getD x3 4 0), G.int (List.getD x3 5 0), G.int (List.getD x3 6 0), G.int (List.getD x3 7 0), G.int (List.getD x3 8 0)])) rfl ty1111 rfl rfl rfl rfl rfl) ?_;refine st rfl rfl (eff_assigng rfl rfl) rfl ?_;refine st_nil ?_;refine aw_ret ?_;obtain rfl := Option.some.inj hR;exact resN rfl ⟨rv_cell rfl rfl ty1111 rfl rfl, rv_g rfl, trivial⟩ (by simp)
def s1057_l1 (a1 : List S1124) (a2 : Int) : List Int → Nat → (List Int) → Option ((List Int) × Int)
 | [], k5, x3 => some (x3, 0)
 | y6 :: t7, k5, x3 => bindO (ixO x3 y6) fun y8 => bindO (ixO a1 ((k5 : Nat) : Int)) fun y9 => bindO (ixO a1 ((k5 : Nat) : Int)) fun y10 => bindO (ixO x3 y6) fun y11 => s1057_l1 a1 a2 t7 (k5 + 1) (List.set x3 (Int.toNat y6) (IntKind.i64.wrap (y8 + (IntKind.i64.wrap ((IntKind.i64.wrap (y9.End + a2)) - y10.Start)))))
def s1057 (a0 : List S1122) (a1 : List S1124) (a2 : Int) (a3 : List Int) : Option ((List Int) × Int) :=
 bindO (s1033 a0 a1 a2 a3) fun r1 => (bif decide (r1 ≠ 0) then some ([], r1) else s1057_l1 a1 a2 a3 0 (List.replicate (List.length a0) 0))
theorem c1057 {g : List (Nat × List Value)} (a0 : List S1122) (a1 : List S1124) (a2 : Int) (a3 : List Int) {R : (List Int) × Int}  (hb : a0.length * 8 ≤ 140737488351232) (hR : s1057 a0 a1 a2 a3 = some R) : Con (EG g) 13 [G.sl 3 (List.map S1122.c a0), G.sl 5 (List.map S1124.c a1), G.int a2, G.sl 1 (List.map cInt a3)] (G.tup [G.sl 1 (List.map cInt R.1), G.int R.2]) := by
 unfold s1057 at hR;refine con_of_aw Tryz.func13 rfl rfl fun w0 M0 => ?_;refine len_sl (f := S1122.c) (l := a0) 0 rfl fun hla0 => ?_;refine len_sl (f := S1124.c) (l := a1) 1 rfl fun hla1 => ?_;refine len_sl (f := cInt) (l := a3) 3 rfl fun hla3 => ?_;refine aw_seq ?_;refine aw_region [.p, .p] ?_;refine st rfl rfl (eff_assigng rfl rfl) rfl ?_;refine st rfl rfl (eff_assigng rfl rfl) rfl ?_;refine st_nil ?_;refine aw_seq ?_;refine aw_seq ?_;obtain ⟨r1, br1, hR⟩ := bindO_inv hR;refine aw_region [.p, .p, .p, .p, .p, .p] ?_;refine st rfl rfl (eff_moveg rfl rfl) rfl ?_;refine st rfl rfl (eff_moveg rfl rfl) rfl ?_;refine st rfl rfl (eff_moveg rfl rfl) rfl ?_;refine st rfl rfl (eff_moveg rfl rfl) rfl ?_;refine st rfl rfl (eff_call rfl K1033 rfl (c1033 a0 a1 a2 a3 br1) (ag_cons rfl (ag_cons rfl (ag_cons rfl (ag_cons rfl ag_nil))))) rfl ?_;refine st rfl rfl (eff_assigng rfl rfl) rfl ?_;refine st_nil ?_;refine aw_seq ?_;refine aw_region [.p, .p] ?_;refine st rfl rfl (eff_moveg rfl rfl) rfl ?_;refine st rfl rfl (eff_neq rfl rfl rfl) rfl ?_;refine st_nil ?_;refine aw_cond _ rfl (fun h1 => ?_) (fun h1 => ?_)
 ·replace h1 : (decide (r1 ≠ 0)) = true := h1;replace hR := condT hR h1;(try simp only [Bool.or_eq_true, Bool.and_eq_true, Bool.or_eq_false_iff, Bool.and_eq_false_iff, Bool.not_eq_true', Bool.not_eq_false', decide_eq_true_eq, decide_eq_false_iff_not] at h1);refine aw_seq ?_;refine aw_region [.p, .p, .p] ?_;refine st rfl rfl (eff_moveg rfl rfl) rfl ?_;refine st rfl rfl (eff_assigng rfl rfl) rfl ?_;refine st rfl rfl (eff_assigng rfl rfl) rfl ?_;refine st_nil ?_;refine aw_ret ?_;obtain rfl := Option.some.inj hR;exact resN rfl ⟨rv_nilG rfl (nil_sl _), rv_g rfl, trivial⟩ (by simp)
 ·replace h1 : (decide (r1 ≠ 0)) = false := h1;replace hR := condF hR h1;(try simp only [Bool.or_eq_true, Bool.and_eq_true, Bool.or_eq_false_iff, Bool.and_eq_false_iff, Bool.not_eq_true', Bool.not_eq_false', decide_eq_true_eq, decide_eq_false_iff_not] at h1);refine aw_skip ?_;refine aw_seq ?_;refine aw_region [.p, .p, .w, .p] ?_;refine st rfl rfl (eff_moveg rfl rfl) rfl ?_;refine st rfl rfl (eff_lenM (f := S1122.c) (l := a0) rfl Tryz.underlying48 rfl) rfl ?_;refine st_w rfl rfl (eff_makeS (f := cInt) (z := 0) 24 rfl mk82 rfl rfl rfl (by first | exact Int.le_refl _ | omega) (by first | decide | omega) rfl rfl rfl) rfl ?_;refine st rfl rfl (eff_assignO rfl rfl) rfl ?_;refine st_nil ?_;refine aw_seq ?_;refine aw_seq ?_;refine aw_region [.p, .p, .p] ?_;refine st rfl rfl (eff_moveg rfl rfl) rfl ?_;refine st rfl rfl (eff_lenM (f := cInt) (l := a3) rfl Tryz.underlying51 rfl) rfl ?_;refine st rfl rfl (eff_moveg rfl rfl) rfl ?_;refine st_nil ?_;refine aw_block ?_;refine aw_loop_g (γ := Nat × (List Int) × (List Int)) (fun g => ([(1, .g (G.sl 5 (List.map S1124.c a1))), (2, .g (G.int a2)), (11, .osl 24 1 0 (List.length a0)), (25, .g (G.sl 1 (List.map cInt a3))), (26, .g (G.int (List.length a3 : Int))), (27, .g (G.int ((g.1 : Nat) : Int)))], [(24, .arr 3 1 (List.map cInt g.2.2))])) (fun g => List.length g.2.2 = List.length a0 ∧ a3.drop g.1 = g.2.1 ∧ s1057_l1 a1 a2 g.2.1 g.1 g.2.2 = some R) (fun g => List.length g.2.1) ⟨rfl, (0, a3, List.replicate (List.length a0) 0), ⟨rfl, rfl, rfl, rfl, rfl, rfl, trivial⟩, ⟨rfl, trivial⟩, rfl, ⟨List.length_replicate, rfl, (by exact hR)⟩, trivial⟩ ?_
  ·rintro ⟨k5, t7, x3⟩ ⟨ln4, hd, hR⟩;replace hd : a3.drop k5 = t7 := hd;replace hR : s1057_l1 a1 a2 t7 k5 x3 = some R := hR;replace ln4 : List.length x3 = List.length a0 := ln4;refine aw_seq ?_;refine aw_region [.p] ?_;refine st rfl rfl (eff_lss rfl rfl rfl) rfl ?_;refine st_nil ?_;refine len_sl (f := cInt) (l := a3) 25 rfl fun hlz1 => ?_;refine aw_seq ?_;refine aw_cond _ rfl (fun h2 => ?_) (fun h2 => ?_)
   ·replace h2 : (decide (((k5 : Nat) : Int) < (List.length a3 : Int))) = true := h2;obtain ⟨y6, t7, rfl, hx1, hd⟩ := drop_cons hd (decT h2);replace h2 := decT h2;rw [s1057_l1] at hR;(try dsimp only at hR);refine aw_skip ?_;refine aw_seq ?_;refine aw_block ?_;refine aw_seq ?_;refine aw_region [.p, .p, .p, .p, .p] ?_;refine st rfl rfl (eff_moveg rfl rfl) rfl ?_;refine st rfl rfl (eff_ix (f := cInt) (l := a3) (a := y6) rfl Tryz.underlying51 ty3 rfl rfl (Int.natCast_nonneg _) hx1) rfl ?_;refine st rfl rfl (eff_load rfl ty3 rfl) rfl ?_;refine st rfl rfl (eff_assigng rfl rfl) rfl ?_;refine st rfl rfl (eff_assigng rfl rfl) rfl ?_;refine st_nil ?_;obtain ⟨y8, by8, hR⟩ := bindO_inv hR;obtain ⟨y9, by9, hR⟩ := bindO_inv hR;obtain ⟨y10, by10, hR⟩ := bindO_inv hR;obtain ⟨y11, by11, hR⟩ := bindO_inv hR;refine aw_draw [.p, .p, .p, .r, .p, .p, .p, .p, .p, .p, .p, .p, .p, .p, .p, .p, .p, .p, .p, .w] (by kernel_rfl) ?_;refine st rfl rfl (eff_moveO rfl rfl) rfl ?_;refine st rfl rfl (eff_moveg rfl rfl) rfl ?_;refine st rfl rfl (eff_ixL rfl Tryz.underlying51 ty3 rfl rfl (ixO_nn by8) (Nat.lt_of_lt_of_eq (get_lt (ixO_get by8)) ln4)) rfl ?_;refine st_r rfl rfl (eff_ldE (f := cInt) (l := x3) (a := y8) rfl ty3 rfl rfl (ixO_get by8) rfl) rfl ?_;refine st rfl rfl (eff_moveg rfl rfl) rfl ?_;refine st rfl rfl (eff_moveg rfl rfl) rfl ?_;refine st rfl rfl (eff_ix (f := S1124.c) (l := a1) (a := y9) rfl Tryz.underlying26 ty1125 rfl rfl (ixO_nn by9) (ixO_get by9)) rfl ?_;refine st rfl rfl (eff_fieldAddr rfl fl1125_2 rfl) rfl ?_;refine st rfl rfl (eff_load rfl ty3 rfl) rfl ?_;refine st rfl rfl (eff_moveg rfl rfl) rfl ?_;refine st rfl rfl (eff_addw rfl rfl rfl) rfl ?_;refine st rfl rfl (eff_moveg rfl rfl) rfl ?_;refine st rfl rfl (eff_moveg rfl rfl) rfl ?_;refine st rfl rfl (eff_ix (f := S1124.c) (l := a1) (a := y10) rfl Tryz.underlying26 ty1125 rfl rfl (ixO_nn by10) (ixO_get by10)) rfl ?_;refine st rfl rfl (eff_fieldAddr rfl fl1125_1 rfl) rfl ?_;refine st rfl rfl (eff_load rfl ty3 rfl) rfl ?_;refine st rfl rfl (eff_subw rfl rfl rfl) rfl ?_;refine st rfl rfl (eff_addw rfl rfl rfl) rfl ?_;refine st rfl rfl (eff_ixL rfl Tryz.underlying51 ty3 rfl rfl (ixO_nn by11) (Nat.lt_of_lt_of_eq (get_lt (ixO_get by11)) ln4)) rfl ?_;refine st_wn rfl rfl (eff_setL (f := cInt) (l := x3) (a' := IntKind.i64.wrap (y8 + (IntKind.i64.wrap ((IntKind.i64.wrap (y9.End + a2)) - y10.Start)))) rfl ty3 rfl rfl rfl (Nat.lt_of_lt_of_eq (Nat.lt_of_lt_of_eq (get_lt (ixO_get by11)) ln4) (Eq.symm ln4)) rfl (fun _ => rfl)) ?_;refine st_nil ?_;refine aw_region [.p, .p] ?_;refine st rfl rfl (eff_add rfl rfl rfl (by unfold I64; omega)) rfl ?_;refine st rfl rfl (eff_moveg rfl rfl) rfl ?_;refine st_nil ?_;exact ⟨rfl, (k5 + 1, t7, List.set x3 (Int.toNat y6) (IntKind.i64.wrap (y8 + (IntKind.i64.wrap ((IntKind.i64.wrap (y9.End + a2)) - y10.Start))))), ⟨rfl, rfl, rfl, rfl, rfl, rfl, trivial⟩, ⟨rfl, trivial⟩, rfl, ⟨((List.length_set ..).trans ln4), hd, hR⟩, by simp⟩
   ·replace h2 : (decide (((k5 : Nat) : Int) < (List.length a3 : Int))) = false := h2;obtain rfl := drop_nil hd (decF h2);rw [s1057_l1] at hR;refine aw_exit ?_;refine aw_seq ?_;refine aw_region [.p, .p, .p] ?_;refine st rfl rfl (eff_moveO rfl rfl) rfl ?_;refine st rfl rfl (eff_assignO rfl rfl) rfl ?_;refine st rfl rfl (eff_assigng rfl rfl) rfl ?_;refine st_nil ?_;refine aw_ret ?_;obtain rfl := Option.some.inj hR;exact resN rfl ⟨rv_viewLN ln4 rfl rfl, rv_g rfl, trivial⟩ (by simp)
theorem ground_zero {a : List S1122} {b : List S1124} {c : Int} : s1104 a b c = 0 ↔ s1023 a = 0 ∧ s1025 b = 0 ∧ s1123 c = 0 := by
 unfold s1104; rw [s1085_eq, s89_zero]; simp
class PureCs (l : List G) : Prop where
 pure : PureL l
instance : PureCs [] := ⟨pureL_nil⟩
instance (c : G) (l : List G) [hc : Pure c] [hl : PureCs l] : PureCs (c :: l) := ⟨fun g hg => by
 rcases List.mem_cons.1 hg with rfl | hg
 ·exact fun _ _ _ _ _ h => hc.pure h
 ·exact hl.pure g hg⟩
theorem fitsT_pure {w w' : World} {M M' : Nat → Prop} : ∀ {l : List G} {vs : List Value}, PureL l → FitsT w M l vs → FitsT w' M' l vs
 | [], [], _, h => h
 | [], _ :: _, _, h => by cases h
 | _ :: _, [], _, h => by cases h
 | c :: l, v :: vs, hp, h => ⟨hp c List.mem_cons_self _ _ _ _ _ h.1, fitsT_pure (fun g hg => hp g (List.mem_cons_of_mem _ hg)) h.2⟩
instance (l : List G) [h : PureCs l] : Pure (.agg l) := ⟨fun ⟨vs, h1, h2⟩ => ⟨vs, h1, Fits.pure h.pure h2⟩⟩
instance (l : List G) [h : PureCs l] : Pure (.tup l) := ⟨fun ⟨vs, h1, h2⟩ => ⟨vs, h1, fitsT_pure h.pure h2⟩⟩
end Go.Sim
set_option maxRecDepth 10000
namespace Go.Sim
open Go.Proofs
def s1141_j1 (rec1 : Nat → (List Int) → Option (List Int)) (k3 : Nat) (x6 : List Int) : Option (List Int) :=
 rec1 (k3 + 1) x6
def s1141_l1 (a0 : S1190) (a1 : Int) : List S1124 → Nat → (List Int) → Option (List Int)
 | [], k3, x1 => some x1
 | y4 :: t5, k3, x1 => bindO (bif decide (((k3 : Nat) : Int) ≠ a1) then ixO a0.turns a1 else some default) fun y7 => (bif (decide (((k3 : Nat) : Int) ≠ a1)) && (s1130 y4 y7 a0.buffer) then s1141_j1 (fun k_ z0_ => s1141_l1 a0 a1 t5 k_ z0_) k3 (x1 ++ [((k3 : Nat) : Int)]) else s1141_j1 (fun k_ z0_ => s1141_l1 a0 a1 t5 k_ z0_) k3 x1)
def s1141 (a0 : S1190) (a1 : Int) : Option (List Int) :=
 s1141_l1 a0 a1 a0.turns 0 []
theorem c1141 {g : List (Nat × List Value)} (a0 : S1190) (a1 : Int) {R : List Int}  (hb : a0.turns.length ≤ 1000) (hR : s1141 a0 a1 = some R) : Con (EG g) 89 [G.agg [G.sl 3 (List.map S1122.c a0.stands), G.sl 5 (List.map S1124.c a0.turns), G.int a0.buffer, G.sl 1 (List.map cInt a0.given)], G.int a1] (G.sl 1 (List.map cInt R)) := by
 unfold s1141 at hR;refine con_of_aw Tryz.func89 rfl rfl fun w0 M0 => ?_;refine aw_seq ?_;refine aw_region [.p, .w] ?_;refine st rfl rfl (eff_box rfl rfl) rfl ?_;refine st_w rfl rfl (eff_nilL 4 3 1 rfl rfl rfl) rfl ?_;refine st_nil ?_;refine aw_seq ?_;refine aw_region [.w] ?_;refine st_w rfl rfl (eff_nilL 5 3 1 rfl rfl rfl) rfl ?_;refine st_nil ?_;refine aw_seq ?_;refine aw_seq ?_;refine aw_region [.p, .p, .p, .p] ?_;refine st rfl rfl (eff_fieldAddr rfl fl1191_1 rfl) rfl ?_;refine st rfl rfl (eff_load rfl ty1023 rfl) rfl ?_;refine st rfl rfl (eff_lenM (f := S1124.c) (l := a0.turns) rfl Tryz.underlying26 rfl) rfl ?_;refine st rfl rfl (eff_moveg rfl rfl) rfl ?_;refine st_nil ?_;refine aw_block ?_;refine aw_loop_g (γ := Nat × (List S1124) × (List Int)) (fun g => ([(1, .g (G.int a1)), (2, .g (G.ref [G.sl 3 (List.map S1122.c a0.stands), G.sl 5 (List.map S1124.c a0.turns), G.int a0.buffer, G.sl 1 (List.map cInt a0.given)])), (5, .osl 5 1 0 (List.length g.2.2)), (9, .g (G.sl 5 (List.map S1124.c a0.turns))), (10, .g (G.int (List.length a0.turns : Int))), (11, .g (G.int ((g.1 : Nat) : Int)))], [(5, .arr 3 1 (List.map cInt g.2.2))])) (fun g => g.2.2.length ≤ g.1 ∧ a0.turns.drop g.1 = g.2.1 ∧ s1141_l1 a0 a1 g.2.1 g.1 g.2.2 = some R) (fun g => List.length g.2.1) ⟨rfl, (0, a0.turns, []), ⟨rfl, rfl, rfl, rfl, rfl, rfl, trivial⟩, ⟨rfl, trivial⟩, rfl, ⟨(by first | (simp; done) | (simp; omega)), rfl, (by exact hR)⟩, trivial⟩ ?_
 ·rintro ⟨k3, t5, x1⟩ ⟨iv1_0, hd, hR⟩;replace hd : a0.turns.drop k3 = t5 := hd;replace hR : s1141_l1 a0 a1 t5 k3 x1 = some R := hR;replace iv1_0 : x1.length ≤ k3 := iv1_0;refine aw_seq ?_;refine aw_region [.p] ?_;refine st rfl rfl (eff_lss rfl rfl rfl) rfl ?_;refine st_nil ?_;refine len_sl (f := S1124.c) (l := a0.turns) 9 rfl fun hlz1 => ?_;refine aw_seq ?_;refine aw_cond _ rfl (fun h1 => ?_) (fun h1 => ?_)
  ·replace h1 : (decide (((k3 : Nat) : Int) < (List.length a0.turns : Int))) = true := h1;obtain ⟨y4, t5, rfl, hx1, hd⟩ := drop_cons hd (decT h1);replace h1 := decT h1;rw [s1141_l1] at hR;(try dsimp only at hR);refine aw_skip ?_;refine aw_cut_g (γ := (List Int)) (fun g => ([(1, .g (G.int a1)), (2, .g (G.ref [G.sl 3 (List.map S1122.c a0.stands), G.sl 5 (List.map S1124.c a0.turns), G.int a0.buffer, G.sl 1 (List.map cInt a0.given)])), (5, .osl 5 1 0 (List.length g)), (9, .g (G.sl 5 (List.map S1124.c a0.turns))), (10, .g (G.int (List.length a0.turns : Int))), (11, .g (G.int ((k3 : Nat) : Int)))], [(5, .arr 3 1 (List.map cInt g))])) (fun g => g.length ≤ k3 + 1 ∧ s1141_j1 (fun k_ z0_ => s1141_l1 a0 a1 t5 k_ z0_) k3 g = some R) ?_ ?_
   ·refine aw_block ?_;refine aw_seq ?_;refine aw_region [.p, .p, .p, .w, .p, .w] ?_;refine st rfl rfl (eff_moveg rfl rfl) rfl ?_;refine st rfl rfl (eff_ix (f := S1124.c) (l := a0.turns) (a := y4) rfl Tryz.underlying26 ty1125 rfl rfl (Int.natCast_nonneg _) hx1) rfl ?_;refine st rfl rfl (eff_loadA rfl ty1125 rfl rfl rfl) rfl ?_;refine st_w rfl rfl (eff_alloc 7 rfl z1125 rfl rfl) rfl ?_;refine st rfl rfl (eff_assigng rfl rfl) rfl ?_;refine st_wn rfl rfl (eff_store (tv := .g (G.agg [G.str y4.Name, G.int y4.Start, G.int y4.End, G.int y4.Size, G.str y4.Terminal])) rfl ty1125 rfl rfl rfl rfl rfl) ?_;refine st_nil ?_;refine aw_seq ?_;obtain ⟨y7, by7, hR⟩ := bindO_inv hR;refine aw_draw [.p, .p, .p, .p, .r, .p, .p, .p, .p, .p, .p, .p, .p, .p] (by kernel_rfl) ?_;refine st rfl rfl (eff_moveg rfl rfl) rfl ?_;refine st rfl rfl (eff_moveg rfl rfl) rfl ?_;refine st rfl rfl (eff_neq rfl rfl rfl) rfl ?_;refine st rfl rfl (eff_moveg rfl rfl) rfl ?_;refine st_gr rfl rfl rfl (gb_bool _ _) (fun h => eff_loadOA rfl ty1125 rfl rfl rfl rfl) rfl ?_;refine st_g rfl rfl rfl (gb_bool _ _) (fun h => eff_fieldAddr rfl fl1191_1 rfl) rfl ?_;refine st_g rfl rfl rfl (gb_bool _ _) (fun h => eff_load rfl ty1023 (gd h rfl)) rfl ?_;refine st_g rfl rfl rfl (gb_bool _ _) (fun h => eff_moveg rfl rfl) rfl ?_;refine st_g rfl rfl rfl (gb_bool _ _) (fun h => eff_ix (f := S1124.c) (l := a0.turns) (a := y7) rfl Tryz.underlying26 ty1125 (gd h rfl) (gd h rfl) (ixO_nn (condT1 by7 h)) (ixO_get (condT1 by7 h))) rfl ?_;refine st_g rfl rfl rfl (gb_bool _ _) (fun h => eff_loadA rfl ty1125 (gd h rfl) rfl rfl) rfl ?_;refine st_g rfl rfl rfl (gb_bool _ _) (fun h => eff_fieldAddr rfl fl1191_2 rfl) rfl ?_;refine st_g rfl rfl rfl (gb_bool _ _) (fun h => eff_load rfl ty3 (gd h rfl)) rfl ?_;refine st_g rfl rfl rfl (gb_bool _ _) (fun h => eff_call rfl K1130 rfl (c1130 y4 y7 a0.buffer) (ag_cons (gd h rfl) (ag_cons (gd h rfl) (ag_cons (gd h rfl) ag_nil)))) rfl ?_;refine st rfl rfl (eff_and rfl rfl rfl rfl) rfl ?_;refine st_nil ?_;refine aw_cond _ rfl (fun h3 => ?_) (fun h3 => ?_)
    ·replace h3 : ((decide (((k3 : Nat) : Int) ≠ a1)) && (s1130 y4 y7 a0.buffer)) = true := h3;replace hR := condT hR h3;(try simp only [Bool.or_eq_true, Bool.and_eq_true, Bool.or_eq_false_iff, Bool.and_eq_false_iff, Bool.not_eq_true', Bool.not_eq_false', decide_eq_true_eq, decide_eq_false_iff_not] at h3);refine aw_region [.p, .p, .p, .k, .p] ?_;refine st rfl rfl (eff_moveO rfl rfl) rfl ?_;refine st rfl rfl (eff_moveg rfl rfl) rfl ?_;refine st rfl rfl (eff_buildSlice rfl Tryz.underlying51 ty3 z3 rfl (ps_cons rfl ps_nil) rfl (by simp []) (by decide)) rfl ?_;refine st_k rfl rfl (eff_appL (f := cInt) (out := x1) (new := [((k3 : Nat) : Int)]) rfl app82 rfl rfl (src_eq rfl (src_sl (by decide) (by simp []))) (refsN rfl) (by simp; omega)) rfl ?_;refine st rfl rfl (eff_assignO rfl rfl) rfl ?_;refine st_nil ?_;exact ⟨rfl, x1 ++ [((k3 : Nat) : Int)], ⟨rfl, rfl, rfl, rfl, rfl, rfl, trivial⟩, ⟨rfl, trivial⟩, rfl, ⟨(by first | omega | (dsimp only; omega) | (simp at *; omega)), hR⟩, trivial⟩
    ·replace h3 : ((decide (((k3 : Nat) : Int) ≠ a1)) && (s1130 y4 y7 a0.buffer)) = false := h3;replace hR := condF hR h3;(try simp only [Bool.or_eq_true, Bool.and_eq_true, Bool.or_eq_false_iff, Bool.and_eq_false_iff, Bool.not_eq_true', Bool.not_eq_false', decide_eq_true_eq, decide_eq_false_iff_not] at h3);refine aw_skip ?_;exact ⟨rfl, x1, ⟨rfl, rfl, rfl, rfl, rfl, rfl, trivial⟩, ⟨rfl, trivial⟩, rfl, ⟨(by first | omega | (dsimp only; omega) | (simp at *; omega)), hR⟩, trivial⟩
   ·rintro x6 ⟨jv1_0, hR⟩;replace jv1_0 : x6.length ≤ k3 + 1 := jv1_0;replace hR : s1141_j1 (fun k_ z0_ => s1141_l1 a0 a1 t5 k_ z0_) k3 x6 = some R := hR;unfold s1141_j1 at hR;refine aw_region [.p, .p] ?_;refine st rfl rfl (eff_add rfl rfl rfl (by unfold I64; omega)) rfl ?_;refine st rfl rfl (eff_moveg rfl rfl) rfl ?_;refine st_nil ?_;exact ⟨rfl, (k3 + 1, t5, x6), ⟨rfl, rfl, rfl, rfl, rfl, rfl, trivial⟩, ⟨rfl, trivial⟩, rfl, ⟨(by first | omega | (dsimp only; omega) | (simp at *; omega)), hd, hR⟩, by simp⟩
  ·replace h1 : (decide (((k3 : Nat) : Int) < (List.length a0.turns : Int))) = false := h1;obtain rfl := drop_nil hd (decF h1);rw [s1141_l1] at hR;refine aw_exit ?_;refine aw_seq ?_;refine aw_region [.p, .p] ?_;refine st rfl rfl (eff_moveO rfl rfl) rfl ?_;refine st rfl rfl (eff_assignO rfl rfl) rfl ?_;refine st_nil ?_;refine aw_ret ?_;obtain rfl := Option.some.inj hR;exact res_c rfl (rv_viewL rfl rfl)
def s1142 (a0 : Int) (a1 : S1190) (a2 : Int) : Option Bool :=
 bindO (ixO a1.given a0) fun y1 => some (decide (y1 = a2))
theorem c1142 {g : List (Nat × List Value)} (a0 : Int) (a1 : S1190) (a2 : Int) {R : Bool}   (hR : s1142 a0 a1 a2 = some R) : Con (EG g) 90 [G.int a0, G.ref [G.sl 3 (List.map S1122.c a1.stands), G.sl 5 (List.map S1124.c a1.turns), G.int a1.buffer, G.sl 1 (List.map cInt a1.given)], G.ref [G.int a2]] (G.bool R) := by
 unfold s1142 at hR;refine con_of_aw Tryz.func90 rfl rfl fun w0 M0 => ?_;refine aw_seq ?_;refine aw_region [.p] ?_;refine st rfl rfl (eff_assigng rfl rfl) rfl ?_;refine st_nil ?_;refine aw_seq ?_;obtain ⟨y1, by1, hR⟩ := bindO_inv hR;refine aw_draw [.p, .p, .p, .p, .p, .p, .p, .p] (by kernel_rfl) ?_;refine st rfl rfl (eff_fieldAddr rfl fl1191_3 rfl) rfl ?_;refine st rfl rfl (eff_load rfl ty82 rfl) rfl ?_;refine st rfl rfl (eff_moveg rfl rfl) rfl ?_;refine st rfl rfl (eff_ix (f := cInt) (l := a1.given) (a := y1) rfl Tryz.underlying51 ty3 rfl rfl (ixO_nn by1) (ixO_get by1)) rfl ?_;refine st rfl rfl (eff_load rfl ty3 rfl) rfl ?_;refine st rfl rfl (eff_load rfl ty3 rfl) rfl ?_;refine st rfl rfl (eff_eql rfl rfl rfl) rfl ?_;refine st rfl rfl (eff_assigng rfl rfl) rfl ?_;refine st_nil ?_;refine aw_ret ?_;obtain rfl := Option.some.inj hR;exact res_c rfl (rv_g rfl)
def s190_l1 (a1 : Int) : List Int → Nat → Int
 | [], k2 => (-1)
 | y3 :: t4, k2 => (bif decide (a1 = y3) then ((k2 : Nat) : Int) else s190_l1 a1 t4 (k2 + 1))
def s190 (a0 : List Int) (a1 : Int) : Int :=
 s190_l1 a1 a0 0
theorem c190 {g : List (Nat × List Value)} (a0 : List Int) (a1 : Int)    : Con (EG g) 137 [G.sl 1 (List.map cInt a0), G.int a1] (G.int (s190 a0 a1)) := by
 generalize hR : s190 a0 a1 = R;unfold s190 at hR;refine con_of_aw Tryz.func137 rfl rfl fun w0 M0 => ?_;refine len_sl (f := cInt) (l := a0) 0 rfl fun hla0 => ?_;refine aw_seq ?_;refine aw_region [.p] ?_;refine st rfl rfl (eff_assigng rfl rfl) rfl ?_;refine st_nil ?_;refine aw_seq ?_;refine aw_seq ?_;refine aw_region [.p, .p, .p] ?_;refine st rfl rfl (eff_moveg rfl rfl) rfl ?_;refine st rfl rfl (eff_lenM (f := cInt) (l := a0) rfl Tryz.underlying51 rfl) rfl ?_;refine st rfl rfl (eff_moveg rfl rfl) rfl ?_;refine st_nil ?_;refine aw_block ?_;refine aw_loop_g (γ := Nat × (List Int)) (fun g => ([(0, .g (G.sl 1 (List.map cInt a0))), (1, .g (G.int a1)), (7, .g (G.int (List.length a0 : Int))), (8, .g (G.int ((g.1 : Nat) : Int)))], [])) (fun g => a0.drop g.1 = g.2 ∧ s190_l1 a1 g.2 g.1 = R) (fun g => List.length g.2) ⟨rfl, (0, a0), ⟨rfl, rfl, rfl, rfl, trivial⟩, trivial, rfl, ⟨rfl, hR⟩, trivial⟩ ?_
 ·rintro ⟨k2, t4⟩ ⟨hd, hR⟩;replace hd : a0.drop k2 = t4 := hd;replace hR : s190_l1 a1 t4 k2 = R := hR;refine aw_seq ?_;refine aw_region [.p] ?_;refine st rfl rfl (eff_lss rfl rfl rfl) rfl ?_;refine st_nil ?_;refine len_sl (f := cInt) (l := a0) 0 rfl fun hlz1 => ?_;refine aw_seq ?_;refine aw_cond _ rfl (fun h1 => ?_) (fun h1 => ?_)
  ·replace h1 : (decide (((k2 : Nat) : Int) < (List.length a0 : Int))) = true := h1;obtain ⟨y3, t4, rfl, hx1, hd⟩ := drop_cons hd (decT h1);replace h1 := decT h1;rw [s190_l1] at hR;(try dsimp only at hR);refine aw_skip ?_;refine aw_seq ?_;refine aw_block ?_;refine aw_seq ?_;refine aw_region [.p, .p] ?_;refine st rfl rfl (eff_moveg rfl rfl) rfl ?_;refine st rfl rfl (eff_assigng rfl rfl) rfl ?_;refine st_nil ?_;refine aw_seq ?_;refine aw_region [.p, .p, .p, .p, .p, .p] ?_;refine st rfl rfl (eff_moveg rfl rfl) rfl ?_;refine st rfl rfl (eff_moveg rfl rfl) rfl ?_;refine st rfl rfl (eff_moveg rfl rfl) rfl ?_;refine st rfl rfl (eff_ix (f := cInt) (l := a0) (a := y3) rfl Tryz.underlying51 ty3 rfl rfl (Int.natCast_nonneg _) hx1) rfl ?_;refine st rfl rfl (eff_load rfl ty3 rfl) rfl ?_;refine st rfl rfl (eff_eql rfl rfl rfl) rfl ?_;refine st_nil ?_;refine aw_cond _ rfl (fun h3 => ?_) (fun h3 => ?_)
   ·replace h3 : (decide (a1 = y3)) = true := h3;replace hR := condT hR h3;(try simp only [Bool.or_eq_true, Bool.and_eq_true, Bool.or_eq_false_iff, Bool.and_eq_false_iff, Bool.not_eq_true', Bool.not_eq_false', decide_eq_true_eq, decide_eq_false_iff_not] at h3);refine aw_seq ?_;refine aw_region [.p, .p] ?_;refine st rfl rfl (eff_moveg rfl rfl) rfl ?_;refine st rfl rfl (eff_assigng rfl rfl) rfl ?_;refine st_nil ?_;refine aw_ret ?_;subst hR;exact res_c rfl (rv_g rfl)
   ·replace h3 : (decide (a1 = y3)) = false := h3;replace hR := condF hR h3;(try simp only [Bool.or_eq_true, Bool.and_eq_true, Bool.or_eq_false_iff, Bool.and_eq_false_iff, Bool.not_eq_true', Bool.not_eq_false', decide_eq_true_eq, decide_eq_false_iff_not] at h3);refine aw_skip ?_;refine aw_region [.p, .p] ?_;refine st rfl rfl (eff_add rfl rfl rfl (by unfold I64; omega)) rfl ?_;refine st rfl rfl (eff_moveg rfl rfl) rfl ?_;refine st_nil ?_;exact ⟨rfl, (k2 + 1, t4), ⟨rfl, rfl, rfl, rfl, trivial⟩, trivial, rfl, ⟨hd, hR⟩, by simp⟩
  ·replace h1 : (decide (((k2 : Nat) : Int) < (List.length a0 : Int))) = false := h1;obtain rfl := drop_nil hd (decF h1);rw [s190_l1] at hR;refine aw_exit ?_;refine aw_seq ?_;refine aw_region [.p] ?_;refine st rfl rfl (eff_assigng rfl rfl) rfl ?_;refine st_nil ?_;refine aw_ret ?_;subst hR;exact res_c rfl (rv_g rfl)
def s144 (a0 : List Int) (a1 : Int) : Bool :=
 decide (0 ≤ (s190 a0 a1))
theorem c144 {g : List (Nat × List Value)} (a0 : List Int) (a1 : Int)    : Con (EG g) 92 [G.sl 1 (List.map cInt a0), G.int a1] (G.bool (s144 a0 a1)) := by
 generalize hR : s144 a0 a1 = R;unfold s144 at hR;refine con_of_aw Tryz.func92 rfl rfl fun w0 M0 => ?_;refine len_sl (f := cInt) (l := a0) 0 rfl fun hla0 => ?_;refine aw_seq ?_;refine aw_region [.p] ?_;refine st rfl rfl (eff_assigng rfl rfl) rfl ?_;refine st_nil ?_;refine aw_seq ?_;refine aw_region [.p, .p, .p, .p, .p] ?_;refine st rfl rfl (eff_moveg rfl rfl) rfl ?_;refine st rfl rfl (eff_moveg rfl rfl) rfl ?_;refine st rfl rfl (eff_call rfl K190 rfl (c190 a0 a1) (ag_cons rfl (ag_cons rfl ag_nil))) rfl ?_;refine st rfl rfl (eff_geq rfl rfl rfl) rfl ?_;refine st rfl rfl (eff_assigng rfl rfl) rfl ?_;refine st_nil ?_;refine aw_ret ?_;subst hR;exact res_c rfl (rv_g rfl)
end Go.Sim
set_option maxRecDepth 10000
namespace Go.Sim
open Go.Proofs
def s1170p_l1 (a1 : Int → Option Bool) : List Int → Nat → Option Int
 | [], k2 => some (-1)
 | y3 :: t4, k2 => bindO (a1 y3) fun r5 => (bif r5 then some ((k2 : Nat) : Int) else s1170p_l1 a1 t4 (k2 + 1))
def s1170p (a0 : List Int) (a1 : Int → Option Bool) : Option Int :=
 s1170p_l1 a1 a0 0
theorem c1170p {g : List (Nat × List Value)} (a0 : List Int) (a1 : Int → Option Bool) {R : Int} {ca1 : G} {ia1 : FuncId} {ka1 : List G} (ha1 : FnIs ca1 ia1 ka1) (Ka1 : Known Tryz.prog ia1) (Ha1 : ∀ (x0 : Int) (r : Bool), a1 x0 = some r → Con (EG g) ia1 ([G.int x0] ++ ka1) (G.bool r))  (hR : s1170p a0 a1 = some R) : Con (EG g) 135 [G.sl 1 (List.map cInt a0), ca1] (G.int R) := by
 unfold s1170p at hR;refine con_of_aw Tryz.func135 rfl rfl fun w0 M0 => ?_;refine len_sl (f := cInt) (l := a0) 0 rfl fun hla0 => ?_;refine aw_seq ?_;refine aw_region [.p] ?_;refine st rfl rfl (eff_assigng rfl rfl) rfl ?_;refine st_nil ?_;refine aw_seq ?_;refine aw_seq ?_;refine aw_region [.p, .p, .p] ?_;refine st rfl rfl (eff_moveg rfl rfl) rfl ?_;refine st rfl rfl (eff_lenM (f := cInt) (l := a0) rfl Tryz.underlying51 rfl) rfl ?_;refine st rfl rfl (eff_moveg rfl rfl) rfl ?_;refine st_nil ?_;refine aw_block ?_;refine aw_loop_g (γ := Nat × (List Int)) (fun g => ([(0, .g (G.sl 1 (List.map cInt a0))), (1, .g (ca1)), (7, .g (G.int (List.length a0 : Int))), (8, .g (G.int ((g.1 : Nat) : Int)))], [])) (fun g => a0.drop g.1 = g.2 ∧ s1170p_l1 a1 g.2 g.1 = some R) (fun g => List.length g.2) ⟨rfl, (0, a0), ⟨rfl, rfl, rfl, rfl, trivial⟩, trivial, rfl, ⟨rfl, hR⟩, trivial⟩ ?_
 ·rintro ⟨k2, t4⟩ ⟨hd, hR⟩;replace hd : a0.drop k2 = t4 := hd;replace hR : s1170p_l1 a1 t4 k2 = some R := hR;refine aw_seq ?_;refine aw_region [.p] ?_;refine st rfl rfl (eff_lss rfl rfl rfl) rfl ?_;refine st_nil ?_;refine len_sl (f := cInt) (l := a0) 0 rfl fun hlz1 => ?_;refine aw_seq ?_;refine aw_cond _ rfl (fun h1 => ?_) (fun h1 => ?_)
  ·replace h1 : (decide (((k2 : Nat) : Int) < (List.length a0 : Int))) = true := h1;obtain ⟨y3, t4, rfl, hx1, hd⟩ := drop_cons hd (decT h1);replace h1 := decT h1;rw [s1170p_l1] at hR;(try dsimp only at hR);refine aw_skip ?_;refine aw_seq ?_;refine aw_block ?_;refine aw_seq ?_;refine aw_region [.p, .p] ?_;refine st rfl rfl (eff_moveg rfl rfl) rfl ?_;refine st rfl rfl (eff_assigng rfl rfl) rfl ?_;refine st_nil ?_;refine aw_seq ?_;obtain ⟨r5, br5, hR⟩ := bindO_inv hR;refine aw_region [.p, .p, .p, .p, .p, .p] ?_;refine st rfl rfl (eff_moveg rfl rfl) rfl ?_;refine st rfl rfl (eff_moveg rfl rfl) rfl ?_;refine st rfl rfl (eff_moveg rfl rfl) rfl ?_;refine st rfl rfl (eff_ix (f := cInt) (l := a0) (a := y3) rfl Tryz.underlying51 ty3 rfl rfl (Int.natCast_nonneg _) hx1) rfl ?_;refine st rfl rfl (eff_load rfl ty3 rfl) rfl ?_;refine st rfl rfl (eff_callf rfl ha1 Ka1 rfl (Ha1 y3 _ br5) (ag_cons rfl ag_nil)) rfl ?_;refine st_nil ?_;refine aw_cond _ rfl (fun h3 => ?_) (fun h3 => ?_)
   ·replace h3 : (r5) = true := h3;replace hR := condT hR h3;(try simp only [Bool.or_eq_true, Bool.and_eq_true, Bool.or_eq_false_iff, Bool.and_eq_false_iff, Bool.not_eq_true', Bool.not_eq_false', decide_eq_true_eq, decide_eq_false_iff_not] at h3);refine aw_seq ?_;refine aw_region [.p, .p] ?_;refine st rfl rfl (eff_moveg rfl rfl) rfl ?_;refine st rfl rfl (eff_assigng rfl rfl) rfl ?_;refine st_nil ?_;refine aw_ret ?_;obtain rfl := Option.some.inj hR;exact res_c rfl (rv_g rfl)
   ·replace h3 : (r5) = false := h3;replace hR := condF hR h3;(try simp only [Bool.or_eq_true, Bool.and_eq_true, Bool.or_eq_false_iff, Bool.and_eq_false_iff, Bool.not_eq_true', Bool.not_eq_false', decide_eq_true_eq, decide_eq_false_iff_not] at h3);refine aw_skip ?_;refine aw_region [.p, .p] ?_;refine st rfl rfl (eff_add rfl rfl rfl (by unfold I64; omega)) rfl ?_;refine st rfl rfl (eff_moveg rfl rfl) rfl ?_;refine st_nil ?_;exact ⟨rfl, (k2 + 1, t4), ⟨rfl, rfl, rfl, rfl, trivial⟩, trivial, rfl, ⟨hd, hR⟩, by simp⟩
  ·replace h1 : (decide (((k2 : Nat) : Int) < (List.length a0 : Int))) = false := h1;obtain rfl := drop_nil hd (decF h1);rw [s1170p_l1] at hR;refine aw_exit ?_;refine aw_seq ?_;refine aw_region [.p] ?_;refine st rfl rfl (eff_assigng rfl rfl) rfl ?_;refine st_nil ?_;refine aw_ret ?_;obtain rfl := Option.some.inj hR;exact res_c rfl (rv_g rfl)
def s1140p (a0 : List Int) (a1 : Int → Option Bool) : Option Bool :=
 bindO (s1170p a0 a1) fun r1 => some (decide (0 ≤ r1))
theorem c1140p {g : List (Nat × List Value)} (a0 : List Int) (a1 : Int → Option Bool) {R : Bool} {ca1 : G} {ia1 : FuncId} {ka1 : List G} (ha1 : FnIs ca1 ia1 ka1) (Ka1 : Known Tryz.prog ia1) (Ha1 : ∀ (x0 : Int) (r : Bool), a1 x0 = some r → Con (EG g) ia1 ([G.int x0] ++ ka1) (G.bool r))  (hR : s1140p a0 a1 = some R) : Con (EG g) 88 [G.sl 1 (List.map cInt a0), ca1] (G.bool R) := by
 unfold s1140p at hR;refine con_of_aw Tryz.func88 rfl rfl fun w0 M0 => ?_;refine len_sl (f := cInt) (l := a0) 0 rfl fun hla0 => ?_;refine aw_seq ?_;refine aw_region [.p] ?_;refine st rfl rfl (eff_assigng rfl rfl) rfl ?_;refine st_nil ?_;refine aw_seq ?_;obtain ⟨r1, br1, hR⟩ := bindO_inv hR;refine aw_region [.p, .p, .p, .p, .p] ?_;refine st rfl rfl (eff_moveg rfl rfl) rfl ?_;refine st rfl rfl (eff_moveg rfl rfl) rfl ?_;refine st rfl rfl (eff_call rfl K1170 rfl (c1170p a0 a1 ha1 Ka1 Ha1 br1) (ag_cons rfl (ag_cons rfl ag_nil))) rfl ?_;refine st rfl rfl (eff_geq rfl rfl rfl) rfl ?_;refine st rfl rfl (eff_assigng rfl rfl) rfl ?_;refine st_nil ?_;refine aw_ret ?_;obtain rfl := Option.some.inj hR;exact res_c rfl (rv_g rfl)
end Go.Sim
set_option maxRecDepth 10000
namespace Go.Sim
open Go.Proofs
def s1107_j1 (rec1 : Nat → (List Int) → Option (List Int)) (k3 : Nat) (x6 : List Int) : Option (List Int) :=
 rec1 (k3 + 1) x6
def s1107_l1 (a0 : S1190) (a1 : Int) : List S1122 → Nat → (List Int) → Option (List Int)
 | [], k3, x1 => some x1
 | y4 :: t5, k3, x1 => bindO (s1141 a0 a1) fun r7 => bindO (s1140p r7 (fun x0 => s1142 x0 a0 ((k3 : Nat) : Int))) fun r8 => bindO (ixO a0.turns a1) fun y9 => (bif (s1128 y9 y4) && (!r8) then s1107_j1 (fun k_ z0_ => s1107_l1 a0 a1 t5 k_ z0_) k3 (x1 ++ [((k3 : Nat) : Int)]) else s1107_j1 (fun k_ z0_ => s1107_l1 a0 a1 t5 k_ z0_) k3 x1)
def s1107 (a0 : S1190) (a1 : Int) : Option (List Int) :=
 s1107_l1 a0 a1 a0.stands 0 []
theorem c1107 {g : List (Nat × List Value)} (a0 : S1190) (a1 : Int) {R : List Int}  (hb : a0.turns.length ≤ 1000) (hb2 : a0.stands.length ≤ 1000) (hR : s1107 a0 a1 = some R) : Con (EG g) 40 [G.agg [G.sl 3 (List.map S1122.c a0.stands), G.sl 5 (List.map S1124.c a0.turns), G.int a0.buffer, G.sl 1 (List.map cInt a0.given)], G.int a1] (G.sl 1 (List.map cInt R)) := by
 unfold s1107 at hR;refine con_of_aw Tryz.func40 rfl rfl fun w0 M0 => ?_;refine aw_seq ?_;refine aw_region [.p, .w] ?_;refine st rfl rfl (eff_box rfl rfl) rfl ?_;refine st_w rfl rfl (eff_nilL 4 3 1 rfl rfl rfl) rfl ?_;refine st_nil ?_;refine aw_seq ?_;refine aw_region [.w] ?_;refine st_w rfl rfl (eff_nilL 5 3 1 rfl rfl rfl) rfl ?_;refine st_nil ?_;refine aw_seq ?_;refine aw_seq ?_;refine aw_region [.p, .p, .p, .p] ?_;refine st rfl rfl (eff_fieldAddr rfl fl1191_0 rfl) rfl ?_;refine st rfl rfl (eff_load rfl ty1022 rfl) rfl ?_;refine st rfl rfl (eff_lenM (f := S1122.c) (l := a0.stands) rfl Tryz.underlying48 rfl) rfl ?_;refine st rfl rfl (eff_moveg rfl rfl) rfl ?_;refine st_nil ?_;refine aw_block ?_;refine aw_loop_g (γ := Nat × (List S1122) × (List Int)) (fun g => ([(1, .g (G.int a1)), (2, .g (G.ref [G.sl 3 (List.map S1122.c a0.stands), G.sl 5 (List.map S1124.c a0.turns), G.int a0.buffer, G.sl 1 (List.map cInt a0.given)])), (5, .osl 5 1 0 (List.length g.2.2)), (10, .g (G.int (List.length a0.stands : Int))), (11, .g (G.int ((g.1 : Nat) : Int)))], [(5, .arr 3 1 (List.map cInt g.2.2))])) (fun g => g.2.2.length ≤ g.1 ∧ a0.stands.drop g.1 = g.2.1 ∧ s1107_l1 a0 a1 g.2.1 g.1 g.2.2 = some R) (fun g => List.length g.2.1) ⟨rfl, (0, a0.stands, []), ⟨rfl, rfl, rfl, rfl, rfl, trivial⟩, ⟨rfl, trivial⟩, rfl, ⟨(by first | (simp; done) | (simp; omega)), rfl, (by exact hR)⟩, trivial⟩ ?_
 ·rintro ⟨k3, t5, x1⟩ ⟨iv1_0, hd, hR⟩;replace hd : a0.stands.drop k3 = t5 := hd;replace hR : s1107_l1 a0 a1 t5 k3 x1 = some R := hR;replace iv1_0 : x1.length ≤ k3 := iv1_0;refine aw_seq ?_;refine aw_region [.p] ?_;refine st rfl rfl (eff_lss rfl rfl rfl) rfl ?_;refine st_nil ?_;refine aw_seq ?_;refine aw_cond _ rfl (fun h1 => ?_) (fun h1 => ?_)
  ·replace h1 : (decide (((k3 : Nat) : Int) < (List.length a0.stands : Int))) = true := h1;obtain ⟨y4, t5, rfl, hx1, hd⟩ := drop_cons hd (decT h1);replace h1 := decT h1;rw [s1107_l1] at hR;(try dsimp only at hR);refine aw_skip ?_;refine aw_cut_g (γ := (List Int)) (fun g => ([(1, .g (G.int a1)), (2, .g (G.ref [G.sl 3 (List.map S1122.c a0.stands), G.sl 5 (List.map S1124.c a0.turns), G.int a0.buffer, G.sl 1 (List.map cInt a0.given)])), (5, .osl 5 1 0 (List.length g)), (10, .g (G.int (List.length a0.stands : Int))), (11, .g (G.int ((k3 : Nat) : Int)))], [(5, .arr 3 1 (List.map cInt g))])) (fun g => g.length ≤ k3 + 1 ∧ s1107_j1 (fun k_ z0_ => s1107_l1 a0 a1 t5 k_ z0_) k3 g = some R) ?_ ?_
   ·refine aw_block ?_;refine aw_seq ?_;refine aw_region [.p, .w, .w] ?_;refine st rfl rfl (eff_moveg rfl rfl) rfl ?_;refine st_w rfl rfl (eff_alloc 6 rfl z3 rfl rfl) rfl ?_;refine st_wn rfl rfl (eff_store (tv := .g (G.int ((k3 : Nat) : Int))) rfl ty3 rfl rfl rfl rfl rfl) ?_;refine st_nil ?_;refine aw_seq ?_;refine aw_freeze (l := [(1, .g (G.int a1)), (2, .g (G.ref [G.sl 3 (List.map S1122.c a0.stands), G.sl 5 (List.map S1124.c a0.turns), G.int a0.buffer, G.sl 1 (List.map cInt a0.given)])), (5, .osl 5 1 0 (List.length x1)), (6, .g (G.ref [G.int ((k3 : Nat) : Int)])), (10, .g (G.int (List.length a0.stands : Int))), (11, .g (G.int ((k3 : Nat) : Int)))]) (m := [(5, .arr 3 1 (List.map cInt x1))]) 6 rfl ⟨.inl ⟨rfl, rfl⟩, .inl ⟨rfl, rfl⟩, .inl ⟨rfl, rfl⟩, .inr (frz_box rfl), .inl ⟨rfl, rfl⟩, .inl ⟨rfl, rfl⟩, trivial⟩ ⟨rfl, trivial⟩ rfl rfl ?_;obtain ⟨r7, br7, hR⟩ := bindO_inv hR;obtain ⟨r8, br8, hR⟩ := bindO_inv hR;refine aw_region [.p, .p, .p, .p, .p, .p] ?_;refine st rfl rfl (eff_loadA rfl ty1191 rfl rfl rfl) rfl ?_;refine st rfl rfl (eff_moveg rfl rfl) rfl ?_;refine st rfl rfl (eff_call rfl K1141 rfl (c1141 a0 a1 (by first | assumption | omega | (simp [copyL_len]; done) | (simp [copyL_len]; omega)) br7) (ag_cons rfl (ag_cons rfl ag_nil))) rfl ?_;refine st rfl rfl (eff_makeF rfl rfl rfl) rfl ?_;refine st rfl rfl (eff_call rfl K1140 rfl (c1140p r7 (fun x0 => s1142 x0 a0 ((k3 : Nat) : Int)) fnis_fn K1142 (fun x0 r_ h_ => c1142 x0 a0 ((k3 : Nat) : Int) h_) br8) (ag_cons rfl (ag_cons rfl ag_nil))) rfl ?_;refine st rfl rfl (eff_assigng rfl rfl) rfl ?_;refine st_nil ?_;refine aw_seq ?_;obtain ⟨y9, by9, hR⟩ := bindO_inv hR;refine aw_draw [.p, .p, .p, .p, .p, .p, .p, .p, .p, .p, .p, .p, .p, .p, .p] (by kernel_rfl) ?_;refine st rfl rfl (eff_fieldAddr rfl fl1191_1 rfl) rfl ?_;refine st rfl rfl (eff_load rfl ty1023 rfl) rfl ?_;refine st rfl rfl (eff_moveg rfl rfl) rfl ?_;refine st rfl rfl (eff_ix (f := S1124.c) (l := a0.turns) (a := y9) rfl Tryz.underlying26 ty1125 rfl rfl (ixO_nn by9) (ixO_get by9)) rfl ?_;refine st rfl rfl (eff_loadA rfl ty1125 rfl rfl rfl) rfl ?_;refine st rfl rfl (eff_fieldAddr rfl fl1191_0 rfl) rfl ?_;refine st rfl rfl (eff_load rfl ty1022 rfl) rfl ?_;refine st rfl rfl (eff_load rfl ty3 rfl) rfl ?_;refine st rfl rfl (eff_ix (f := S1122.c) (l := a0.stands) (a := y4) rfl Tryz.underlying48 ty1123 rfl rfl (Int.natCast_nonneg _) hx1) rfl ?_;refine st rfl rfl (eff_loadA rfl ty1123 rfl rfl rfl) rfl ?_;refine st rfl rfl (eff_call rfl K1128 rfl (c1128 y9 y4) (ag_cons rfl (ag_cons rfl ag_nil))) rfl ?_;refine st rfl rfl (eff_moveg rfl rfl) rfl ?_;refine st_g rfl rfl rfl (gb_bool _ _) (fun h => eff_moveg rfl rfl) rfl ?_;refine st_g rfl rfl rfl (gb_bool _ _) (fun h => eff_not rfl (gd h rfl)) rfl ?_;refine st rfl rfl (eff_and rfl rfl rfl rfl) rfl ?_;refine st_nil ?_;refine aw_cond _ rfl (fun h3 => ?_) (fun h3 => ?_)
    ·replace h3 : ((s1128 y9 y4) && (!r8)) = true := h3;replace hR := condT hR h3;(try simp only [Bool.or_eq_true, Bool.and_eq_true, Bool.or_eq_false_iff, Bool.and_eq_false_iff, Bool.not_eq_true', Bool.not_eq_false', decide_eq_true_eq, decide_eq_false_iff_not] at h3);refine aw_region [.p, .p, .p, .k, .p] ?_;refine st rfl rfl (eff_moveO rfl rfl) rfl ?_;refine st rfl rfl (eff_load rfl ty3 rfl) rfl ?_;refine st rfl rfl (eff_buildSlice rfl Tryz.underlying51 ty3 z3 rfl (ps_cons rfl ps_nil) rfl (by simp []) (by decide)) rfl ?_;refine st_k rfl rfl (eff_appL (f := cInt) (out := x1) (new := [((k3 : Nat) : Int)]) rfl app82 rfl rfl (src_eq rfl (src_sl (by decide) (by simp []))) (refsN rfl) (by simp; omega)) rfl ?_;refine st rfl rfl (eff_assignO rfl rfl) rfl ?_;refine st_nil ?_;exact ⟨rfl, x1 ++ [((k3 : Nat) : Int)], ⟨rfl, rfl, rfl, rfl, rfl, trivial⟩, ⟨rfl, trivial⟩, rfl, ⟨(by first | omega | (dsimp only; omega) | (simp at *; omega)), hR⟩, trivial⟩
    ·replace h3 : ((s1128 y9 y4) && (!r8)) = false := h3;replace hR := condF hR h3;(try simp only [Bool.or_eq_true, Bool.and_eq_true, Bool.or_eq_false_iff, Bool.and_eq_false_iff, Bool.not_eq_true', Bool.not_eq_false', decide_eq_true_eq, decide_eq_false_iff_not] at h3);refine aw_skip ?_;exact ⟨rfl, x1, ⟨rfl, rfl, rfl, rfl, rfl, trivial⟩, ⟨rfl, trivial⟩, rfl, ⟨(by first | omega | (dsimp only; omega) | (simp at *; omega)), hR⟩, trivial⟩
   ·rintro x6 ⟨jv1_0, hR⟩;replace jv1_0 : x6.length ≤ k3 + 1 := jv1_0;replace hR : s1107_j1 (fun k_ z0_ => s1107_l1 a0 a1 t5 k_ z0_) k3 x6 = some R := hR;unfold s1107_j1 at hR;refine aw_region [.p, .p] ?_;refine st rfl rfl (eff_add rfl rfl rfl (by unfold I64; omega)) rfl ?_;refine st rfl rfl (eff_moveg rfl rfl) rfl ?_;refine st_nil ?_;exact ⟨rfl, (k3 + 1, t5, x6), ⟨rfl, rfl, rfl, rfl, rfl, trivial⟩, ⟨rfl, trivial⟩, rfl, ⟨(by first | omega | (dsimp only; omega) | (simp at *; omega)), hd, hR⟩, by simp⟩
  ·replace h1 : (decide (((k3 : Nat) : Int) < (List.length a0.stands : Int))) = false := h1;obtain rfl := drop_nil hd (decF h1);rw [s1107_l1] at hR;refine aw_exit ?_;refine aw_seq ?_;refine aw_region [.p, .p] ?_;refine st rfl rfl (eff_moveO rfl rfl) rfl ?_;refine st rfl rfl (eff_assignO rfl rfl) rfl ?_;refine st_nil ?_;refine aw_ret ?_;obtain rfl := Option.some.inj hR;exact res_c rfl (rv_viewL rfl rfl)
def s1108 (a0 : S1190) (a1 : Int) (a2 : Int) : Option S1190 :=
 bindO (ixO (copyL (List.replicate (List.length a0.given) 0) a0.given) a1) fun y1 => some (S1190.mk a0.stands a0.turns a0.buffer (List.set (copyL (List.replicate (List.length a0.given) 0) a0.given) (Int.toNat a1) a2))
theorem c1108 {g : List (Nat × List Value)} (a0 : S1190) (a1 : Int) (a2 : Int) {R : S1190}  (hb : a0.given.length ≤ 1000) (hR : s1108 a0 a1 a2 = some R) : Con (EG g) 41 [G.agg [G.sl 3 (List.map S1122.c a0.stands), G.sl 5 (List.map S1124.c a0.turns), G.int a0.buffer, G.sl 1 (List.map cInt a0.given)], G.int a1, G.int a2] (G.agg [G.sl 3 (List.map S1122.c R.stands), G.sl 5 (List.map S1124.c R.turns), G.int R.buffer, G.sl 1 (List.map cInt R.given)]) := by
 unfold s1108 at hR;refine con_of_aw Tryz.func41 rfl rfl fun w0 M0 => ?_;refine aw_seq ?_;refine aw_region [.w, .w] ?_;refine st_w rfl rfl (eff_boxO (tv := .g (G.agg [G.sl 3 (List.map S1122.c a0.stands), G.sl 5 (List.map S1124.c a0.turns), G.int a0.buffer, G.sl 1 (List.map cInt a0.given)])) 3 rfl rfl rfl) rfl ?_;refine st_w rfl rfl (eff_alloc 6 rfl z1191 rfl rfl) rfl ?_;refine st_nil ?_;refine aw_seq ?_;refine aw_region [.p, .r, .p, .w, .p] ?_;refine st rfl rfl (eff_fieldO rfl fl1191_3 rfl) rfl ?_;refine st_r rfl rfl (eff_loadO rfl ty82 rfl rfl rfl) rfl ?_;refine st rfl rfl (eff_lenM (f := cInt) (l := a0.given) rfl Tryz.underlying51 rfl) rfl ?_;refine st_w rfl rfl (eff_makeS (f := cInt) (z := 0) 11 rfl mk82 rfl rfl rfl (by first | exact Int.le_refl _ | omega) (by first | decide | omega) rfl rfl rfl) rfl ?_;refine st rfl rfl (eff_assignO rfl rfl) rfl ?_;refine st_nil ?_;refine aw_seq ?_;refine aw_region [.p, .p, .r, .w] ?_;refine st rfl rfl (eff_moveO rfl rfl) rfl ?_;refine st rfl rfl (eff_fieldO rfl fl1191_3 rfl) rfl ?_;refine st_r rfl rfl (eff_loadO rfl ty82 rfl rfl rfl) rfl ?_;refine st_w rfl rfl (eff_copyL (f := cInt) (d := List.replicate (List.length a0.given) 0) (s := a0.given) rfl app82 rfl List.length_replicate rfl (src_eq rfl (src_sl (by decide) (by simp [])))) rfl ?_;refine st_nil ?_;refine aw_seq ?_;refine aw_region [.p, .p, .w] ?_;refine st rfl rfl (eff_moveO rfl rfl) rfl ?_;refine st rfl rfl (eff_fieldO rfl fl1191_3 rfl) rfl ?_;refine st_wn rfl rfl (eff_store (tv := .osl 11 1 0 (List.length a0.given)) rfl ty82 rfl rfl rfl rfl rfl) ?_;refine st_nil ?_;refine aw_seq ?_;obtain ⟨y1, by1, hR⟩ := bindO_inv hR;refine aw_region [.p, .r, .p, .p, .p, .w] ?_;refine st rfl rfl (eff_fieldO rfl fl1191_3 rfl) rfl ?_;refine st_r rfl rfl (eff_loadO rfl ty82 rfl rfl rfl) rfl ?_;refine st rfl rfl (eff_moveg rfl rfl) rfl ?_;refine st rfl rfl (eff_moveg rfl rfl) rfl ?_;refine st rfl rfl (eff_ixL rfl Tryz.underlying51 ty3 rfl rfl (ixO_nn by1) (Nat.lt_of_lt_of_eq (get_lt (ixO_get by1)) ((copyL_len _ _).trans List.length_replicate))) rfl ?_;refine st_wn rfl rfl (eff_setL (f := cInt) (l := copyL (List.replicate (List.length a0.given) 0) a0.given) (a' := a2) rfl ty3 rfl rfl rfl (Nat.lt_of_lt_of_eq (Nat.lt_of_lt_of_eq (get_lt (ixO_get by1)) ((copyL_len _ _).trans List.length_replicate)) (Eq.symm ((copyL_len _ _).trans List.length_replicate))) rfl (fun _ => rfl)) ?_;refine st_nil ?_;refine aw_seq ?_;refine aw_frzcell (l := [(3, .ptr 3 0), (6, .ptr 6 0)]) (m := [(3, .box [.g (G.sl 3 (List.map S1122.c a0.stands)), .g (G.sl 5 (List.map S1124.c a0.turns)), .g (G.int a0.buffer), .g (G.sl 1 (List.map cInt (List.set (copyL (List.replicate (List.length a0.given) 0) a0.given) (Int.toNat a1) a2)))]), (6, .box [.g (G.lit (.slice none 0 0)), .g (G.lit (.slice none 0 0)), .g (G.int 0), .g (G.lit (.slice none 0 0))])]) 3 3 11 1 _ rfl rfl rfl ((List.length_map ..).trans ((List.length_set ..).trans ((copyL_len _ _).trans List.length_replicate))) ⟨rfl, rfl, trivial⟩ ⟨rfl, rfl, trivial⟩ rfl rfl ?_;refine aw_region [.r, .w] ?_;refine st_r rfl rfl (eff_loadOA rfl ty1191 rfl rfl rfl rfl) rfl ?_;refine st_wn rfl rfl (eff_store (tv := .g (G.agg [G.sl 3 (List.map S1122.c a0.stands), G.sl 5 (List.map S1124.c a0.turns), G.int a0.buffer, G.sl 1 (List.map cInt (List.set (copyL (List.replicate (List.length a0.given) 0) a0.given) (Int.toNat a1) a2))])) rfl ty1191 rfl rfl rfl rfl rfl) ?_;refine st_nil ?_;refine aw_ret ?_;obtain rfl := Option.some.inj hR;exact res_c rfl (rv_cell rfl rfl ty1191 rfl rfl)
section
variable {E : Env} {w0 : World} {M0 : Nat → Prop}
theorem run_slBounds3 {P : Program} {w : World} {k1 k2 k3 : IntKind} {a c m len cap : Nat} (h1 : a ≤ c) (h2 : c ≤ m) (h3 : m ≤ cap) :
  (Instr.sliceBounds true len cap (some (.int k1 (a : Int))) (some (.int k2 (c : Int))) (some (.int k3 (m : Int)))).run P w = .ok (a, c, m) w := by
 simp [Instr.sliceBounds, run_slBound (P := P) (w := w) h1, run_slBound (P := P) (w := w) h2, run_slBound (P := P) (w := w) h3]
theorem run_slBounds2 {P : Program} {w : World} {k1 k2 : IntKind} {a c len cap : Nat} (h1 : a ≤ c) (h2 : c ≤ cap) :
  (Instr.sliceBounds true len cap (some (.int k1 (a : Int))) (some (.int k2 (c : Int))) none).run P w = .ok (a, c, cap) w := by
 simp [Instr.sliceBounds, run_slBound (P := P) (w := w) h1, run_slBound (P := P) (w := w) h2]
theorem set_row {cur : List Value} {o n a : Nat} {news : List Value} (h1 : a + news.length ≤ n) (h2 : o + n ≤ cur.length) :
  ((setAt cur (o + a) news).drop o).take n = ((cur.drop o).take n).take a ++ news ++ ((cur.drop o).take n).drop (a + news.length) := by
 simp only [setAt];rw [List.append_assoc, List.drop_append_of_le_length (by rw [List.length_take]; omega), List.drop_take, show o + a - o = a by omega]
 have hl1 : ((cur.drop o).take a).length = a := by rw [List.length_take, List.length_drop]; omega
 rw [List.take_append, hl1, List.take_of_length_le (l := (cur.drop o).take a) (by omega)];rw [List.take_append, List.take_of_length_le (l := news) (by omega)];rw [List.take_take, Nat.min_eq_left (show a ≤ n by omega), List.append_assoc]
 congr 2
 rw [List.drop_take, List.drop_drop]
 congr 1
 ·omega
 ·congr 1; omega
theorem eff_sl3 {o : Oper} {ev : Operand → TV} {t el : TypeId} {x lo hi mx : Operand} {id k N : Nat} {a c m : Int} {b : Bool} {ka kc km : IntKind} (ho : o.op = .slice t x (some lo) (some hi) (some mx)) (ht : E.P.underlying t = some (.slice el)) (hk : tyK E.P el = some (k, b)) (hx : ev x = .osl id k 0 N)
  (hlo : ev lo = .g (.lit (.int ka a))) (hhi : ev hi = .g (.lit (.int kc c))) (hmx : ev mx = .g (.lit (.int km m))) (h0 : 0 ≤ a) (h1 : a ≤ c) (h2 : c ≤ m) (h3 : m ≤ (N : Int)) (mem : Mem) : Eff E o mem ev .any :=
 eff_same (fun w M ρ e' he => by
  have g1 := he x (by rw [ho]; simp [Op.operands]);have g2 := he lo (by rw [ho]; simp [Op.operands]);have g3 := he hi (by rw [ho]; simp [Op.operands]);have g4 := he mx (by rw [ho]; simp [Op.operands]);rw [hx] at g1; rw [hlo] at g2; rw [hhi] at g3; rw [hmx] at g4
  have g2 : e' lo = .int ka ((a.toNat : Nat) : Int) := by rw [Int.toNat_of_nonneg h0]; exact g2
  have g3 : e' hi = .int kc ((c.toNat : Nat) : Int) := by rw [Int.toNat_of_nonneg (by omega)]; exact g3
  have g4 : e' mx = .int km ((m.toNat : Nat) : Int) := by rw [Int.toNat_of_nonneg (by omega)]; exact g4
  obtain ⟨ad, ln, cp, hs, hN⟩ : ∃ ad ln cp, e' x = .slice ad ln cp ∧ N ≤ cp := by
   rcases g1 with ⟨_, _, q, h⟩ | ⟨ow, _, _, q, p, h, _⟩
   ·exact ⟨_, _, _, h, by omega⟩
   ·exact ⟨_, _, _, h, by omega⟩
  have hb := run_slBounds3 (P := E.P) (w := w) (k1 := ka) (k2 := kc) (k3 := km) (len := ln) (show a.toNat ≤ c.toNat by omega) (show c.toNat ≤ m.toNat by omega) (show m.toNat ≤ cp by omega);refine ⟨.slice (if m.toNat = a.toNat then ad else ad.map (·.add (a.toNat * k))) (c.toNat - a.toNat) (m.toNat - a.toNat), ?_, trivial⟩
  ·simp only [execOp, ho, hs, g2, g3, g4, Instr.sliceAt, Instr.slice, Sem.run_bind, Sem.run_map, run_underlying ht, Result.andThen_ok, Option.map_some, hb, run_sizeOf hk, Sem.run_pure]) mem
theorem eff_slC {o : Oper} {mem : Mem} {ev : Operand → TV} {t el e : TypeId} {x lo hi : Operand} {id k M : Nat} {a c : Int} {b : Bool} {ka kc : IntKind} {xs : List (List G)} (ho : o.op = .slice t x (some lo) (some hi) none) (ht : E.P.underlying t = some (.slice el)) (hk : tyK E.P el = some (k, b)) (hx : ev x = .osl id k 0 M)
  (hlo : ev lo = .g (.lit (.int ka a))) (hhi : ev hi = .g (.lit (.int kc c))) (h0 : 0 ≤ a) (h1 : a ≤ c) (h2 : c ≤ (xs.length : Int)) (hl : lookO mem id = some (.arr e k xs)) (hM : 0 < xs.length) : Eff E o mem ev (.osl id k a.toNat c.toNat) := by
 intro w0 M0 ρ w e' hm he;have g1 := he x (by rw [ho]; simp [Op.operands]);have g2 := he lo (by rw [ho]; simp [Op.operands]);have g3 := he hi (by rw [ho]; simp [Op.operands]);rw [hx] at g1; rw [hlo] at g2; rw [hhi] at g3
 have g2 : e' lo = .int ka ((a.toNat : Nat) : Int) := by rw [Int.toNat_of_nonneg h0]; exact g2
 have g3 : e' hi = .int kc ((c.toNat : Nat) : Int) := by rw [Int.toNat_of_nonneg (by omega)]; exact g3
 rcases g1 with ⟨q0, _, q, _⟩ | ⟨ow, q1, _, q2, p, q3, q4⟩
 ·rcases hm.blk id _ hl with ⟨_, k2⟩ | ⟨ow', cur, k1, _⟩
  ·rw [k2] at hM; simp at hM
  ·rw [q0] at k1; cases k1
 ·rcases hm.blk id _ hl with ⟨k1, _⟩ | ⟨ow', cur, k1, k2, k3, k4, k5, k6, k7⟩
  ·rw [q1] at k1; cases k1
  have : ow' = ow := by rw [q1] at k1; simpa using k1.symm
  subst this;rw [Nat.sub_zero] at q3;have hp := q4 (by omega);have hb := run_slBounds2 (P := E.P) (w := w) (k1 := ka) (k2 := kc) (len := M) (show a.toNat ≤ c.toNat by omega) (show c.toNat ≤ ow'.cap by omega)
  have hrun : (execOp e' o).run E.P w = .ok (.value (.slice (if ow'.cap = a.toNat then some ⟨ow'.b, p, none⟩ else some ⟨ow'.b, p + a.toNat * k, none⟩) (c.toNat - a.toNat) (ow'.cap - a.toNat))) w := by
   simp only [execOp, ho, q3, g2, g3, Nat.sub_zero, Instr.sliceAt, Instr.slice, Sem.run_bind, Sem.run_map, run_underlying ht, Result.andThen_ok, Option.map_none, Option.map_some, hb, run_sizeOf hk, Sem.run_pure, Addr.add_lit]
  rw [hrun];refine ⟨Grow.refl w, .inr ⟨ow', q1, by omega, by omega, if ow'.cap = a.toNat then p else p + a.toNat * k, ?_, fun h => ?_⟩⟩
  ·by_cases hca : ow'.cap = a.toNat <;> simp [hca]
  ·rw [if_neg (by omega), hp, Nat.zero_mul, Nat.add_zero]
theorem eff_delA {o : Oper} {mem : Mem} {ev : Operand → TV} {s x : Operand} {t e : TypeId} {k by_ id a b N : Nat} {xs : List (List G)} (ho : o.op = .call ⟨.builtin .append, #[s, x], #[t, t]⟩) (ha : appK E.P t = some (e, k + 1, by_ + 1)) (hs : ev s = .osl id (k + 1) 0 a) (hx : ev x = .osl id (k + 1) b N)
  (hl : lookO mem id = some (.arr e (k + 1) xs)) (hN : xs.length = N) (hab : a ≤ b) (hbN : b ≤ N) (h0 : 0 < N) :
  EffW E o mem ev (.osl id (k + 1) 0 (a + (N - b))) ((id, .arr e (k + 1) (xs.take a ++ xs.drop b ++ xs.drop (a + (N - b)))) :: mem) none := by
 intro w0 M0 ρ w e' hm he;have v1 := he s (by rw [ho]; simp [Op.operands, Call.operands]);have v2 := he x (by rw [ho]; simp [Op.operands, Call.operands]);rw [hs] at v1; rw [hx] at v2;obtain ⟨i, z, t1, t2, t3, t4, t5, t6⟩ := appK_spec ha
 rcases hm.blk id _ hl with ⟨g1, g2⟩ | ⟨ow, cur, g1, g2, g3, g4, g5, g6, g7⟩
 ·rw [g2] at hN; simp at hN; omega
 have hcv : ∃ p, e' s = .slice (some ⟨ow.b, p, none⟩) a ow.cap ∧ (0 < ow.cap → p = ow.o) := by
  rcases v1 with ⟨h, _⟩ | ⟨ow', h, _, _, p, h4, h5⟩
  ·rw [g1] at h; cases h
  ·have : ow' = ow := by rw [g1] at h; simpa using h.symm
   subst this;exact ⟨p, by simpa using h4, by simpa using h5⟩
 have hcx : ∃ p, e' x = .slice (some ⟨ow.b, p, none⟩) (N - b) (ow.cap - b) ∧ (b < ow.cap → p = ow.o + b * (k + 1)) := by
  rcases v2 with ⟨h, _⟩ | ⟨ow', h, _, _, p, h4, h5⟩
  ·rw [g1] at h; cases h
  ·have : ow' = ow := by rw [g1] at h; simpa using h.symm
   subst this;exact ⟨p, h4, h5⟩
 obtain ⟨p, es, hp⟩ := hcv;obtain ⟨p', ex, hp'⟩ := hcx;subst hN;have hcap : ow.o + ow.cap * (k + 1) ≤ cur.size := g5.resolve_left (by omega);have hp := hp (by omega);subst hp;have hNk : xs.length * (k + 1) ≤ ow.cap * (k + 1) := Nat.mul_le_mul_right _ g3
 -- what is moved
 let news := ((cur.toList.drop ow.o).take (xs.length * (k + 1))).drop (b * (k + 1))
 have hcl : cur.toList.length = cur.size := Array.length_toList
 have hlenall : ((cur.toList.drop ow.o).take (xs.length * (k + 1))).length = xs.length * (k + 1) := by rw [List.length_take, List.length_drop, hcl]; omega
 have hbk : b * (k + 1) ≤ xs.length * (k + 1) := Nat.mul_le_mul_right _ hbN;have hak : a * (k + 1) ≤ b * (k + 1) := Nat.mul_le_mul_right _ hab;have hsub : (xs.length - b) * (k + 1) = xs.length * (k + 1) - b * (k + 1) := Nat.sub_mul _ _ _
 have hnl : news.length = (xs.length - b) * (k + 1) := by show (List.drop _ _).length = _; rw [List.length_drop, hlenall, hsub]
 have hfnew : Fits w (owned M0 ρ) (xs.drop b).flatten news := by
  have := g7.drop (b * (k + 1))
  rwa [flatten_drop b g6] at this
 have hmul : (a + (xs.length - b)) * (k + 1) = a * (k + 1) + (xs.length - b) * (k + 1) := Nat.add_mul _ _ _
 have hstore : ∃ w' cur', (execOp e' o).run E.P w = .ok (.value (.slice (some ⟨ow.b, ow.o, none⟩) (a + (xs.length - b)) ow.cap)) w' ∧ w'.heap[ow.b]? = some (.cells cur' e (0, 0)) ∧ cur'.toList = setAt cur.toList (ow.o + a * (k + 1)) news ∧ (∀ q, q ≠ ow.b → w'.heap[q]? = w.heap[q]?) ∧ w'.heap.size = w.heap.size ∧ w'.os = w.os ∧ w'.tape = w.tape ∧ w'.output = w.output := by
  have hrd : ∀ j u, news[j]? = some u → w.cell? (Addr.add ⟨ow.b, p', none⟩ j) = some u := by
   intro j u hj;have hj' := hj;have hjl : j < news.length := (List.getElem?_eq_some_iff.1 hj).1
   have hbc : b < ow.cap := by
    rcases Nat.lt_or_ge b ow.cap with h | h
    ·exact h
    ·have : xs.length - b = 0 := by omega
     rw [this] at hnl; omega
   rw [hp' hbc, Addr.add_lit, cell_of_row w _ _ _ _ _ g2];have : news[j]? = ((cur.toList.drop ow.o).take (xs.length * (k + 1)))[b * (k + 1) + j]? := List.getElem?_drop;rw [this, List.getElem?_take] at hj
   split at hj
   ·rw [List.getElem?_drop] at hj;rw [show ow.o + b * (k + 1) + j = ow.o + (b * (k + 1) + j) by omega]
    simpa using hj
   ·cases hj
  obtain ⟨w', cur', r1, r2, r3, r4, r5, r6, r7, r8⟩ := run_storeCells (P := E.P) ow.b (ow.o + a * (k + 1)) e news 0 cur w g2 (by omega) (fun u hu => hfnew.one u hu);have hf := run_firstCells_some (P := E.P) w (k + 1) (xs.length - b) ⟨ow.b, p', none⟩ (xs.length - b) (ow.cap - b) news hnl hrd;refine ⟨w', cur', ?_, r2, by rw [r3, Nat.add_zero], r4, r5, r6, r7, r8⟩
  have hroom : a + (xs.length - b) ≤ ow.cap := by omega
  have hrun : (execOp e' o) = (do pure (.value (← Builtin.append_ #[t, t] o.type #[e' s, e' x])) : Sem Next) := by simp [execOp, ho, resolve, invoke, builtin]
  rw [hrun, es, ex]
  simp [Builtin.append_, run_underlying t1, sizeOf, typeInfo, t2, Builtin.lenOf, hroom, t4, hf, Addr.add_lit, r1]
 obtain ⟨w', cur', hrun, r2, r3, r4, r5, r6, r7, r8⟩ := hstore;rw [hrun]
 have rsz : cur'.size = cur.size := by
  rw [← Array.length_toList, r3, ← Array.length_toList (xs := cur)];simp only [setAt, List.length_append, List.length_take, List.length_drop, Array.length_toList]
  omega
 have hdf : Diff ρ id w w' := ⟨r6, r7, r8, by omega, fun q _ hne => r4 q (hne ow g1)⟩
 have hM : ∀ q, q < w.heap.size → owned M0 (rhoSet ρ id (some ow)) q → owned M0 ρ q := by
  rintro q hq (h | ⟨j, o, h, rfl⟩)
  ·exact .inl h
  ·by_cases hj : j = id
   ·subst hj; rw [rhoSet_same] at h; cases h; exact .inr ⟨j, ow, g1, rfl⟩
   ·exact .inr ⟨j, o, by simpa [rhoSet, hj] using h, rfl⟩
 have hh : ∀ q, q < w.heap.size → ¬ owned M0 ρ q → w'.heap[q]? = w.heap[q]? := fun q _ hno => r4 q fun he => hno (.inr ⟨id, ow, g1, he.symm⟩)
 have hlen : (xs.take a ++ xs.drop b ++ xs.drop (a + (xs.length - b))).length = xs.length := by simp; omega
 have hrow : (cur'.toList.drop ow.o).take (xs.length * (k + 1)) = ((cur.toList.drop ow.o).take (xs.length * (k + 1))).take (a * (k + 1)) ++ news ++ ((cur.toList.drop ow.o).take (xs.length * (k + 1))).drop ((a + (xs.length - b)) * (k + 1)) := by
  rw [r3, hmul, ← hnl];exact set_row (by rw [hnl, hsub]; omega) (by rw [hcl]; omega)
 have hfits : Fits w' (owned M0 (rhoSet ρ id (some ow))) (xs.take a ++ xs.drop b ++ xs.drop (a + (xs.length - b))).flatten ((cur'.toList.drop ow.o).take (xs.length * (k + 1))) := by
  rw [hrow, List.flatten_append, List.flatten_append, ← flatten_take (k := k + 1) a g6, ← flatten_drop (k := k + 1) (a + (xs.length - b)) g6];exact (((g7.take _).append hfnew).append (g7.drop _)).mono hh hM
 obtain ⟨k1, k2⟩ := mrel_upd (id := id) (x := some ow) (blk' := .arr e (k + 1) (xs.take a ++ xs.drop b ++ xs.drop (a + (xs.length - b)))) none hm hdf (fun o ho => by cases ho; exact ⟨.inr ⟨ow, g1, rfl⟩, by rw [r5]; exact (hm.fresh id ow g1).2⟩) (.inr ⟨rfl, .inr g1⟩) (fun _ b _ _ => noref_none b) (.inl rfl)
  (.inr ⟨ow, cur', rhoSet_same _ _ _, r2, by rw [hlen]; exact g3, g4, g5.imp (fun h => h) (fun h => by rw [rsz]; exact h), fun c hc => by
    rcases List.mem_append.1 hc with hc | hc
    ·rcases List.mem_append.1 hc with hc | hc
     ·exact g6 c (List.mem_of_mem_take hc)
     ·exact g6 c (List.mem_of_mem_drop hc)
    ·exact g6 c (List.mem_of_mem_drop hc), by rw [hlen]; exact hfits⟩)
 exact ⟨_, k1, k2, .inr ⟨ow, rhoSet_same _ _ _, Nat.zero_le _, by omega, ow.o, by simp, fun _ => by simp⟩⟩
theorem eff_delL {α : Type} {f0 : α → List G} {l : List α} {o : Oper} {mem : Mem} {ev : Operand → TV} {s x : Operand} {t e : TypeId} {k by_ id a b N : Nat} (ho : o.op = .call ⟨.builtin .append, #[s, x], #[t, t]⟩) (ha : appK E.P t = some (e, k + 1, by_ + 1)) (hs : ev s = .osl id (k + 1) 0 a) (hx : ev x = .osl id (k + 1) b N)
  (hl : lookO mem id = some (.arr e (k + 1) (l.map f0))) (hN : l.length = N) (hab : a ≤ b) (hbN : b ≤ N) (h0 : 0 < N) :
  EffW E o mem ev (.osl id (k + 1) 0 (a + (N - b))) ((id, .arr e (k + 1) ((l.take a ++ l.drop b ++ l.drop (a + (N - b))).map f0)) :: mem) none := by
 have := eff_delA ho ha hs hx hl (by rw [List.length_map]; exact hN) hab hbN h0
 simpa only [List.map_append, List.map_take, List.map_drop] using this
theorem eff_slCL {α : Type} {f0 : α → List G} {l : List α} {o : Oper} {mem : Mem} {ev : Operand → TV} {t el e : TypeId} {x lo hi : Operand} {id k M N : Nat} {a c : Int} {b : Bool} {ka kc : IntKind} (ho : o.op = .slice t x (some lo) (some hi) none) (ht : E.P.underlying t = some (.slice el)) (hk : tyK E.P el = some (k, b)) (hx : ev x = .osl id k 0 M)
  (hlo : ev lo = .g (.lit (.int ka a))) (hhi : ev hi = .g (.lit (.int kc c))) (h0 : 0 ≤ a) (h1 : a ≤ c) (hN : l.length = N) (h2 : c ≤ (N : Int)) (hl : lookO mem id = some (.arr e k (l.map f0))) (hM : 0 < N) : Eff E o mem ev (.osl id k a.toNat c.toNat) :=
 eff_slC ho ht hk hx hlo hhi h0 h1 (by rw [List.length_map, hN]; exact h2) hl (by rw [List.length_map, hN]; exact hM)
theorem del_len {α : Type} {l : List α} {a b N : Nat} (hN : l.length = N) (hab : a ≤ b) (hbN : b ≤ N) : (l.take a ++ l.drop b ++ l.drop (a + (N - b))).length = N := by simp; omega
end
end Go.Sim
set_option maxRecDepth 10000
namespace Go.Sim
open Go.Proofs
def s1144 (a0 : List Int) (a1 : Int) (a2 : Int) : (List Int) × Nat :=
 (bif decide (a1 = a2) then (a0, List.length a0) else (List.take (Int.toNat ((((Int.toNat a1) + ((List.length a0) - (Int.toNat a2))) - (0) : Nat) : Int)) (List.take (Int.toNat a1) a0 ++ List.drop (Int.toNat a2) a0 ++ List.drop ((Int.toNat a1) + ((List.length a0) - (Int.toNat a2))) a0), (Int.toNat a1) + ((List.length a0) - (Int.toNat a2))))
theorem c1144 {g : List (Nat × List Value)} (a0 : List Int) (a1 : Int) (a2 : Int)  (hA : 0 ≤ a1) (hAB : a1 ≤ a2) (hB : a2 ≤ (List.length a0 : Int))  : ConT (EG g) 93 [.osl 0 1 0 (List.length a0), .g (G.int a1), .g (G.int a2)] 3 1 (List.map cInt a0) (List.map cInt (s1144 a0 a1 a2).1) (s1144 a0 a1 a2).2 := by
 generalize hR : s1144 a0 a1 a2 = R;unfold s1144 at hR;refine conT_of_aw Tryz.func93 rfl rfl fun w0 M0 x => ?_;refine len_osl (f := cInt) (l := a0) 0 rfl fun hla0 => ?_;refine aw_seq ?_;refine aw_region [.w] ?_;refine st_w rfl rfl (eff_nilL 6 3 1 rfl rfl rfl) rfl ?_;refine st_nil ?_;refine aw_seq ?_;refine aw_region [.p, .p, .p, .p, .p, .p] ?_;refine st rfl rfl (eff_moveO rfl rfl) rfl ?_;refine st rfl rfl (eff_moveg rfl rfl) rfl ?_;refine st rfl rfl (eff_moveg rfl rfl) rfl ?_;refine st rfl rfl (eff_moveO rfl rfl) rfl ?_;refine st rfl rfl (eff_lenO0 rfl Tryz.underlying51 rfl) rfl ?_;refine st rfl rfl (eff_sl3 rfl Tryz.underlying51 ty3 rfl rfl rfl rfl hA hAB hB (Int.le_refl _)) rfl ?_;refine st_nil ?_;refine aw_seq ?_;refine aw_seq ?_;refine aw_region [.p, .p, .p] ?_;refine st rfl rfl (eff_moveg rfl rfl) rfl ?_;refine st rfl rfl (eff_moveg rfl rfl) rfl ?_;refine st rfl rfl (eff_eql rfl rfl rfl) rfl ?_;refine st_nil ?_;refine aw_cond _ rfl (fun h1 => ?_) (fun h1 => ?_)
 ·replace h1 : (decide (a1 = a2)) = true := h1;replace hR := condT hR h1;(try simp only [Bool.or_eq_true, Bool.and_eq_true, Bool.or_eq_false_iff, Bool.and_eq_false_iff, Bool.not_eq_true', Bool.not_eq_false', decide_eq_true_eq, decide_eq_false_iff_not] at h1);refine aw_seq ?_;refine aw_region [.p, .p] ?_;refine st rfl rfl (eff_moveO rfl rfl) rfl ?_;refine st rfl rfl (eff_assignO rfl rfl) rfl ?_;refine st_nil ?_;refine aw_ret ?_;subst hR;show (∃ t_, _ ∧ _) ∧ MemL _ _;exact ⟨⟨_, rfl, rfl⟩, rfl, trivial⟩
 ·replace h1 : (decide (a1 = a2)) = false := h1;replace hR := condF hR h1;(try simp only [Bool.or_eq_true, Bool.and_eq_true, Bool.or_eq_false_iff, Bool.and_eq_false_iff, Bool.not_eq_true', Bool.not_eq_false', decide_eq_true_eq, decide_eq_false_iff_not] at h1);refine aw_skip ?_;refine aw_seq ?_;refine aw_region [.p, .p, .p] ?_;refine st rfl rfl (eff_moveO rfl rfl) rfl ?_;refine st rfl rfl (eff_lenO0 rfl Tryz.underlying51 rfl) rfl ?_;refine st rfl rfl (eff_assigng rfl rfl) rfl ?_;refine st_nil ?_;refine aw_seq ?_;refine aw_draw [.p, .p, .p, .p, .p, .p, .w, .p] (by kernel_rfl) ?_;refine st rfl rfl (eff_moveO rfl rfl) rfl ?_;refine st rfl rfl (eff_moveg rfl rfl) rfl ?_;refine st rfl rfl (eff_slO (a := 0) (c := Int.toNat a1) rfl Tryz.underlying51 ty3 rfl bnd_none (bnd_some rfl (by omega)) (by omega) (by omega)) rfl ?_;refine st rfl rfl (eff_moveO rfl rfl) rfl ?_;refine st rfl rfl (eff_moveg rfl rfl) rfl ?_;refine st rfl rfl (eff_slO (a := Int.toNat a2) (c := List.length a0) rfl Tryz.underlying51 ty3 rfl (bnd_some rfl (by omega)) bnd_none (by omega) (by omega)) rfl ?_;refine st_w rfl rfl (eff_delL (f0 := cInt) (l := a0) rfl app82 rfl rfl rfl rfl (by omega) (by omega) (by omega)) rfl ?_;refine st rfl rfl (eff_assignO rfl rfl) rfl ?_;refine st_nil ?_;refine aw_seq ?_;refine aw_region [.p, .p, .p, .p, .r, .w] ?_;refine st rfl rfl (eff_moveO rfl rfl) rfl ?_;refine st rfl rfl (eff_moveO rfl rfl) rfl ?_;refine st rfl rfl (eff_lenO rfl Tryz.underlying51 rfl) rfl ?_;refine st rfl rfl (eff_moveg rfl rfl) rfl ?_;refine st_r rfl rfl (eff_slCL (f0 := cInt) (l := List.take (Int.toNat a1) a0 ++ List.drop (Int.toNat a2) a0 ++ List.drop ((Int.toNat a1) + ((List.length a0) - (Int.toNat a2))) a0) rfl Tryz.underlying51 ty3 rfl rfl rfl (by omega) (by omega) (del_len rfl (by omega) (by omega)) (by omega) rfl (by omega)) rfl ?_;refine st_wn rfl rfl (eff_clearO (f0 := cInt) (l := List.take (Int.toNat a1) a0 ++ List.drop (Int.toNat a2) a0 ++ List.drop ((Int.toNat a1) + ((List.length a0) - (Int.toNat a2))) a0) (a := Int.toNat ((((Int.toNat a1) + ((List.length a0) - (Int.toNat a2))) - (0) : Nat) : Int)) rfl Tryz.underlying51 z3 rfl (((del_len rfl (by omega) (by omega))).trans (by omega)) rfl rfl rfl) ?_;refine st_nil ?_;refine aw_seq ?_;refine aw_region [.p, .p] ?_;refine st rfl rfl (eff_moveO rfl rfl) rfl ?_;refine st rfl rfl (eff_assignO rfl rfl) rfl ?_;refine st_nil ?_;refine aw_ret ?_;subst hR;show (∃ t_, _ ∧ _) ∧ MemL _ _;exact ⟨⟨_, rfl, rfl⟩, rfl, trivial⟩
theorem del_eq (a0 : List Int) (a1 a2 : Int) (hA : 0 ≤ a1) (hAB : a1 ≤ a2) (hB : a2 ≤ (a0.length : Int)) : (s1144 a0 a1 a2).2 ≤ (s1144 a0 a1 a2).1.length ∧ List.take (s1144 a0 a1 a2).2 (s1144 a0 a1 a2).1 = a0.take a1.toNat ++ a0.drop a2.toNat := by
 unfold s1144
 by_cases h : a1 = a2
 ·subst h;rw [decide_eq_true rfl, cond_true];exact ⟨Nat.le_refl _, by rw [List.take_length, List.take_append_drop]⟩
 ·rw [decide_eq_false h, cond_false];dsimp only
  have e : Int.toNat ((((Int.toNat a1) + ((List.length a0) - (Int.toNat a2))) - (0) : Nat) : Int) = (Int.toNat a1) + ((List.length a0) - (Int.toNat a2)) := by omega
  rw [e]
  have hl : (a0.take a1.toNat ++ a0.drop a2.toNat).length = a1.toNat + (a0.length - a2.toNat) := by simp; omega
  have ht : List.take (a1.toNat + (a0.length - a2.toNat)) (a0.take a1.toNat ++ a0.drop a2.toNat ++ a0.drop (a1.toNat + (a0.length - a2.toNat))) = a0.take a1.toNat ++ a0.drop a2.toNat := by
   rw [← hl, List.take_left]
  rw [ht, ← hl];exact ⟨Nat.le_refl _, List.take_length⟩
theorem give1144 (a0 : List Int) (a1 a2 : Int) (hA : 0 ≤ a1) (hAB : a1 ≤ a2) (hB : a2 ≤ (a0.length : Int)) : (s1144 a0 a1 a2).2 ≤ (s1144 a0 a1 a2).1.length := (del_eq a0 a1 a2 hA hAB hB).1
theorem del_le (a0 : List Int) (a1 a2 : Int) (hA : 0 ≤ a1) (hAB : a1 ≤ a2) (hB : a2 ≤ (a0.length : Int)) (h : a0.length ≤ 1000) : (List.take (s1144 a0 a1 a2).2 (s1144 a0 a1 a2).1).length ≤ 1000 := by
 rw [(del_eq a0 a1 a2 hA hAB hB).2]; simp; omega
theorem copyL_self (l : List Int) : copyL (List.replicate l.length 0) l = l := by
 unfold copyL;rw [List.length_replicate, List.take_length, List.drop_of_length_le (by simp), List.append_nil]
theorem with_eq (p : S1190) (i s : Int) : s1108 p i s = if 0 ≤ i ∧ i.toNat < p.given.length then some ⟨p.stands, p.turns, p.buffer, p.given.set i.toNat s⟩ else none := by
 unfold s1108;rw [copyL_self];unfold ixO
 by_cases h : 0 ≤ i
 ·rw [decide_eq_true h, cond_true]
  by_cases h2 : i.toNat < p.given.length
  ·rw [List.getElem?_eq_getElem h2, if_pos ⟨h, h2⟩]; rfl
  ·rw [List.getElem?_eq_none (by omega), if_neg (fun q => h2 q.2)]; rfl
 ·rw [decide_eq_false h, cond_false, if_neg (fun q => h q.1)]; rfl
theorem with1108 {p q : S1190} {i s : Int} (h : s1108 p i s = some q) : q.stands = p.stands ∧ q.turns = p.turns ∧ q.buffer = p.buffer ∧ q.given.length = p.given.length := by
 rw [with_eq] at h
 split at h
 ·cases h; exact ⟨rfl, rfl, rfl, by simp⟩
 ·cases h
theorem poss_le {p q : S1190} {i s : Int} (h : s1108 p i s = some q) (h1 : p.turns.length ≤ 1000) (h2 : p.stands.length ≤ 1000) (h3 : p.given.length ≤ 1000) : q.turns.length ≤ 1000 ∧ q.stands.length ≤ 1000 ∧ q.given.length ≤ 1000 := by
 obtain ⟨e1, e2, _, e3⟩ := with1108 h;exact ⟨by rw [e2]; exact h1, by rw [e1]; exact h2, by rw [e3]; exact h3⟩
theorem del_filter {l : List Int} {f : Int → Bool} {R : List Int × Nat} (h : s1146 l f = some R) : List.take R.2 R.1 = l.filter fun y => !(f y) := by
 obtain ⟨L, h1, h2, _⟩ := s1146_ok l f;rw [h1] at h; cases h; exact h2
theorem del_rest {l : List Int} {f : Int → Bool} {R : List Int × Nat} (h : s1146 l f = some R) (hl : l.length ≤ 1000) : (List.take R.2 R.1).length ≤ 1000 := by
 rw [del_filter h];have := List.length_filter_le (fun y => !(f y)) l
 omega
end Go.Sim
set_option maxRecDepth 10000
namespace Go.Sim
open Go.Proofs
def s1147 (a0 : Int) (a1 : Int) : Bool :=
 decide (a0 = a1)
theorem c1147 {g : List (Nat × List Value)} (a0 : Int) (a1 : Int)    : Con (EG g) 96 [G.int a0, G.ref [G.int a1]] (G.bool (s1147 a0 a1)) := by
 generalize hR : s1147 a0 a1 = R;unfold s1147 at hR;refine con_of_aw Tryz.func96 rfl rfl fun w0 M0 => ?_;refine aw_seq ?_;refine aw_region [.p] ?_;refine st rfl rfl (eff_assigng rfl rfl) rfl ?_;refine st_nil ?_;refine aw_seq ?_;refine aw_region [.p, .p, .p, .p] ?_;refine st rfl rfl (eff_moveg rfl rfl) rfl ?_;refine st rfl rfl (eff_load rfl ty3 rfl) rfl ?_;refine st rfl rfl (eff_eql rfl rfl rfl) rfl ?_;refine st rfl rfl (eff_assigng rfl rfl) rfl ?_;refine st_nil ?_;refine aw_ret ?_;subst hR;exact res_c rfl (rv_g rfl)
def s1148 (poss : S1190 → List Int → Option Bool) (a0 : Int) (a1 : S1190) (a2 : Int) (a3 : List Int) : Option Bool :=
 bindO (s1108 a1 a2 a0) fun r1 => bindO (poss r1 a3) fun r2 => some r2
theorem c1148 {g : List (Nat × List Value)} (poss : S1190 → List Int → Option Bool) (a0 : Int) (a1 : S1190) (a2 : Int) (a3 : List Int) {R : Bool}  (Hposs : ∀ (q : S1190) (r : List Int) (R : Bool), q.turns.length ≤ 1000 → q.stands.length ≤ 1000 → q.given.length ≤ 1000 → r.length ≤ 1000 → poss q r = some R → Con (EG g) 42 [G.agg [G.sl 3 (List.map S1122.c q.stands), G.sl 5 (List.map S1124.c q.turns), G.int q.buffer, G.sl 1 (List.map cInt q.given)], G.sl 1 (List.map cInt r)] (G.bool R)) (hb1 : a1.turns.length ≤ 1000) (hb2 : a1.stands.length ≤ 1000) (hb3 : a1.given.length ≤ 1000) (hb4 : a3.length ≤ 1000) (hR : s1148 poss a0 a1 a2 a3 = some R) : Con (EG g) 97 [G.int a0, G.ref [G.sl 3 (List.map S1122.c a1.stands), G.sl 5 (List.map S1124.c a1.turns), G.int a1.buffer, G.sl 1 (List.map cInt a1.given)], G.ref [G.int a2], G.ref [G.sl 1 (List.map cInt a3)]] (G.bool R) := by
 unfold s1148 at hR;refine con_of_aw Tryz.func97 rfl rfl fun w0 M0 => ?_;refine aw_seq ?_;refine aw_region [.p] ?_;refine st rfl rfl (eff_assigng rfl rfl) rfl ?_;refine st_nil ?_;refine aw_seq ?_;obtain ⟨r1, br1, hR⟩ := bindO_inv hR;obtain ⟨r2, br2, hR⟩ := bindO_inv hR;have hw := poss_le br1 hb1 hb2 hb3;refine aw_draw [.p, .p, .p, .p, .p, .p, .p] (by kernel_rfl) ?_;refine st rfl rfl (eff_loadA rfl ty1191 rfl rfl rfl) rfl ?_;refine st rfl rfl (eff_load rfl ty3 rfl) rfl ?_;refine st rfl rfl (eff_moveg rfl rfl) rfl ?_;refine st rfl rfl (eff_call rfl K1108 rfl (c1108 a1 a2 a0 (by first | assumption | omega | (simp [copyL_len]; done) | (simp [copyL_len]; omega)) br1) (ag_cons rfl (ag_cons rfl (ag_cons rfl ag_nil)))) rfl ?_;refine st rfl rfl (eff_load rfl ty82 rfl) rfl ?_;refine st rfl rfl (eff_call rfl K1109 rfl (Hposs r1 a3 r2 hw.1 hw.2.1 hw.2.2 hb4 br2) (ag_cons rfl (ag_cons rfl ag_nil))) rfl ?_;refine st rfl rfl (eff_assigng rfl rfl) rfl ?_;refine st_nil ?_;refine aw_ret ?_;obtain rfl := Option.some.inj hR;exact res_c rfl (rv_g rfl)
end Go.Sim
set_option maxRecDepth 10000
namespace Go.Sim
open Go.Proofs
def s1109_j1 (rec1 : Nat → (List Int) → Int → Option Bool) (k4 : Nat) (x9 : List Int) (x10 : Int) : Option Bool :=
 rec1 (k4 + 1) x9 x10
def s1109_j2 (rec2 : Nat → Int → Option Bool) (k15 : Nat) (x19 : Int) : Option Bool :=
 rec2 (k15 + 1) x19
def s1109_l2 (self : S1190 → (List Int) → Option Bool) (rec1 : Nat → (List Int) → Int → Option Bool) (a0 : S1190) (a1 : List Int) (x1 : List Int) (x3 : Int) (k4 : Nat) (y5 : Int) (r11 : List Int) : List Int → Nat → Int → Option Bool
 | [], k15, x13 => (bif decide (x13 < (List.length r11 : Int)) then bindO (self a0 (List.take (s1144 a1 ((k4 : Nat) : Int) (((k4 : Nat) : Int) + 1)).2 (s1144 a1 ((k4 : Nat) : Int) (((k4 : Nat) : Int) + 1)).1)) fun r18 => some r18 else (bif (decide (x3 < 0)) || (decide ((List.length r11 : Int) < (List.length x1 : Int))) then s1109_j1 rec1 k4 r11 y5 else s1109_j1 rec1 k4 x1 x3))
 | y16 :: t17, k15, x13 => bindO (ixO a0.given y16) fun y20 => (bif (decide (y20 < 0)) && (s144 a1 y16) then s1109_j2 (fun k_ z0_ => s1109_l2 self rec1 a0 a1 x1 x3 k4 y5 r11 t17 k_ z0_) k15 (IntKind.i64.wrap (x13 + 1)) else s1109_j2 (fun k_ z0_ => s1109_l2 self rec1 a0 a1 x1 x3 k4 y5 r11 t17 k_ z0_) k15 x13)
def s1109_l1 (self : S1190 → (List Int) → Option Bool) (a0 : S1190) (a1 : List Int) : List Int → Nat → (List Int) → Int → Option Bool
 | [], k4, x1, x3 => (bif decide (x3 < 0) then some true else bindO (s1146 a1 (fun x0 => s1147 x0 x3)) fun r7 => bindO (s1140p x1 (fun x0 => s1148 self x0 a0 x3 (List.take r7.2 r7.1))) fun r8 => some r8)
 | y5 :: t6, k4, x1, x3 => bindO (s1107 a0 y5) fun r11 => bindO (s1141 a0 y5) fun r12 => s1109_l2 self (fun k_ z0_ z1_ => s1109_l1 self a0 a1 t6 k_ z0_ z1_) a0 a1 x1 x3 k4 y5 r11 r12 0 0
def s1109 : Nat → S1190 → (List Int) → Option Bool
 | 0, _, _ => none
 | kf_ + 1, a0, a1 => s1109_l1 (fun z0_ z1_ => s1109 kf_ z0_ z1_) a0 a1 a1 0 [] (-1)
theorem c1109 {g : List (Nat × List Value)} (kf_ : Nat) : ∀ (a0 : S1190) (a1 : List Int) {R : Bool}  (hb : a0.turns.length ≤ 1000) (hb2 : a0.stands.length ≤ 1000) (hb3 : a0.given.length ≤ 1000) (hb4 : a1.length ≤ 1000) (hR : s1109 kf_ a0 a1 = some R), Con (EG g) 42 [G.agg [G.sl 3 (List.map S1122.c a0.stands), G.sl 5 (List.map S1124.c a0.turns), G.int a0.buffer, G.sl 1 (List.map cInt a0.given)], G.sl 1 (List.map cInt a1)] (G.bool R) := by
 induction kf_ with
 | zero => intro a0 a1 R hb hb2 hb3 hb4 hR; rw [s1109] at hR; cases hR
 | succ kf_ ih =>
 intro a0 a1 R hb hb2 hb3 hb4 hR;rw [s1109] at hR;(try dsimp only at hR);refine con_of_aw Tryz.func42 rfl rfl fun w0 M0 => ?_;refine len_sl (f := cInt) (l := a1) 1 rfl fun hla1 => ?_;refine aw_seq ?_;refine aw_region [.p, .p] ?_;refine st rfl rfl (eff_box rfl rfl) rfl ?_;refine st rfl rfl (eff_assigng rfl rfl) rfl ?_;refine st_nil ?_;refine aw_seq ?_;refine aw_region [.w, .w, .p] ?_;refine st_w rfl rfl (eff_alloc 5 rfl z3 rfl rfl) rfl ?_;refine st_wn rfl rfl (eff_store (tv := .g (G.int (-1))) rfl ty3 rfl rfl rfl rfl rfl) ?_;refine st rfl rfl (eff_nilS 1 rfl rfl) rfl ?_;refine st_nil ?_;refine aw_seq ?_;refine aw_seq ?_;refine aw_region [.p, .p, .p] ?_;refine st rfl rfl (eff_moveg rfl rfl) rfl ?_;refine st rfl rfl (eff_lenM (f := cInt) (l := a1) rfl Tryz.underlying51 rfl) rfl ?_;refine st rfl rfl (eff_moveg rfl rfl) rfl ?_;refine st_nil ?_;refine aw_block ?_;refine aw_loop_g (γ := Nat × (List Int) × (List Int) × Int) (fun g => ([(1, .g (G.sl 1 (List.map cInt a1))), (2, .g (G.ref [G.sl 3 (List.map S1122.c a0.stands), G.sl 5 (List.map S1124.c a0.turns), G.int a0.buffer, G.sl 1 (List.map cInt a0.given)])), (5, .ptr 5 0), (6, .g (G.sl 1 (List.map cInt g.2.2.1))), (14, .g (G.sl 1 (List.map cInt a1))), (15, .g (G.int (List.length a1 : Int))), (16, .g (G.int ((g.1 : Nat) : Int)))], [(5, .box [.g (G.int g.2.2.2)])])) (fun g => a1.drop g.1 = g.2.1 ∧ s1109_l1 (fun z0_ z1_ => s1109 kf_ z0_ z1_) a0 a1 g.2.1 g.1 g.2.2.1 g.2.2.2 = some R) (fun g => List.length g.2.1) ⟨rfl, (0, a1, [], (-1)), ⟨rfl, rfl, rfl, rfl, rfl, rfl, rfl, trivial⟩, ⟨rfl, trivial⟩, rfl, ⟨rfl, (by exact hR)⟩, trivial⟩ ?_
 ·rintro ⟨k4, t6, x1, x3⟩ ⟨hd, hR⟩;replace hd : a1.drop k4 = t6 := hd;replace hR : s1109_l1 (fun z0_ z1_ => s1109 kf_ z0_ z1_) a0 a1 t6 k4 x1 x3 = some R := hR;refine aw_seq ?_;refine aw_region [.p] ?_;refine st rfl rfl (eff_lss rfl rfl rfl) rfl ?_;refine st_nil ?_;refine len_sl (f := cInt) (l := a1) 1 rfl fun hlz1 => ?_;refine aw_seq ?_;refine aw_cond _ rfl (fun h1 => ?_) (fun h1 => ?_)
  ·replace h1 : (decide (((k4 : Nat) : Int) < (List.length a1 : Int))) = true := h1;obtain ⟨y5, t6, rfl, hx1, hd⟩ := drop_cons hd (decT h1);replace h1 := decT h1;rw [s1109_l1] at hR;(try dsimp only at hR);refine aw_skip ?_;refine aw_cut_g (γ := (List Int) × Int) (fun g => ([(1, .g (G.sl 1 (List.map cInt a1))), (2, .g (G.ref [G.sl 3 (List.map S1122.c a0.stands), G.sl 5 (List.map S1124.c a0.turns), G.int a0.buffer, G.sl 1 (List.map cInt a0.given)])), (5, .ptr 5 0), (6, .g (G.sl 1 (List.map cInt g.1))), (14, .g (G.sl 1 (List.map cInt a1))), (15, .g (G.int (List.length a1 : Int))), (16, .g (G.int ((k4 : Nat) : Int)))], [(5, .box [.g (G.int g.2)])])) (fun g => s1109_j1 (fun k_ z0_ z1_ => s1109_l1 (fun z0_ z1_ => s1109 kf_ z0_ z1_) a0 a1 t6 k_ z0_ z1_) k4 g.1 g.2 = some R) ?_ ?_
   ·refine aw_block ?_;refine aw_seq ?_;refine aw_region [.p, .p, .p, .p, .p] ?_;refine st rfl rfl (eff_moveg rfl rfl) rfl ?_;refine st rfl rfl (eff_ix (f := cInt) (l := a1) (a := y5) rfl Tryz.underlying51 ty3 rfl rfl (Int.natCast_nonneg _) hx1) rfl ?_;refine st rfl rfl (eff_load rfl ty3 rfl) rfl ?_;refine st rfl rfl (eff_assigng rfl rfl) rfl ?_;refine st rfl rfl (eff_assigng rfl rfl) rfl ?_;refine st_nil ?_;refine aw_seq ?_;obtain ⟨r11, br11, hR⟩ := bindO_inv hR;refine aw_region [.p, .p, .p, .p] ?_;refine st rfl rfl (eff_loadA rfl ty1191 rfl rfl rfl) rfl ?_;refine st rfl rfl (eff_moveg rfl rfl) rfl ?_;refine st rfl rfl (eff_call rfl K1107 rfl (c1107 a0 y5 (by first | assumption | omega | (simp [copyL_len]; done) | (simp [copyL_len]; omega)) (by first | assumption | omega | (simp [copyL_len]; done) | (simp [copyL_len]; omega)) br11) (ag_cons rfl (ag_cons rfl ag_nil))) rfl ?_;refine st rfl rfl (eff_assigng rfl rfl) rfl ?_;refine st_nil ?_;refine aw_seq ?_;refine aw_region [.p] ?_;refine st rfl rfl (eff_assigng rfl rfl) rfl ?_;refine st_nil ?_;refine aw_seq ?_;refine aw_seq ?_;obtain ⟨r12, br12, hR⟩ := bindO_inv hR;refine aw_region [.p, .p, .p, .p, .p] ?_;refine st rfl rfl (eff_loadA rfl ty1191 rfl rfl rfl) rfl ?_;refine st rfl rfl (eff_moveg rfl rfl) rfl ?_;refine st rfl rfl (eff_call rfl K1141 rfl (c1141 a0 y5 (by first | assumption | omega | (simp [copyL_len]; done) | (simp [copyL_len]; omega)) br12) (ag_cons rfl (ag_cons rfl ag_nil))) rfl ?_;refine st rfl rfl (eff_lenM (f := cInt) (l := r12) rfl Tryz.underlying51 rfl) rfl ?_;refine st rfl rfl (eff_moveg rfl rfl) rfl ?_;refine st_nil ?_;refine aw_block ?_;refine aw_loop_g (γ := Nat × (List Int) × Int) (fun g => ([(1, .g (G.sl 1 (List.map cInt a1))), (2, .g (G.ref [G.sl 3 (List.map S1122.c a0.stands), G.sl 5 (List.map S1124.c a0.turns), G.int a0.buffer, G.sl 1 (List.map cInt a0.given)])), (5, .ptr 5 0), (6, .g (G.sl 1 (List.map cInt x1))), (7, .g (G.int ((k4 : Nat) : Int))), (8, .g (G.int y5)), (9, .g (G.sl 1 (List.map cInt r11))), (10, .g (G.int g.2.2)), (14, .g (G.sl 1 (List.map cInt a1))), (15, .g (G.int (List.length a1 : Int))), (16, .g (G.int ((k4 : Nat) : Int))), (26, .g (G.sl 1 (List.map cInt r12))), (27, .g (G.int (List.length r12 : Int))), (28, .g (G.int ((g.1 : Nat) : Int)))], [(5, .box [.g (G.int x3)])])) (fun g => r12.drop g.1 = g.2.1 ∧ s1109_l2 (fun z0_ z1_ => s1109 kf_ z0_ z1_) (fun k_ z0_ z1_ => s1109_l1 (fun z0_ z1_ => s1109 kf_ z0_ z1_) a0 a1 t6 k_ z0_ z1_) a0 a1 x1 x3 k4 y5 r11 g.2.1 g.1 g.2.2 = some R) (fun g => List.length g.2.1) ⟨rfl, (0, r12, 0), ⟨rfl, rfl, rfl, rfl, rfl, rfl, rfl, rfl, rfl, rfl, rfl, rfl, rfl, rfl, trivial⟩, ⟨rfl, trivial⟩, rfl, ⟨rfl, (by exact hR)⟩, trivial⟩ ?_
    ·rintro ⟨k15, t17, x13⟩ ⟨hd2, hR⟩;replace hd2 : r12.drop k15 = t17 := hd2;replace hR : s1109_l2 (fun z0_ z1_ => s1109 kf_ z0_ z1_) (fun k_ z0_ z1_ => s1109_l1 (fun z0_ z1_ => s1109 kf_ z0_ z1_) a0 a1 t6 k_ z0_ z1_) a0 a1 x1 x3 k4 y5 r11 t17 k15 x13 = some R := hR;refine aw_seq ?_;refine aw_region [.p] ?_;refine st rfl rfl (eff_lss rfl rfl rfl) rfl ?_;refine st_nil ?_;refine len_sl (f := cInt) (l := r12) 26 rfl fun hlz2 => ?_;refine aw_seq ?_;refine aw_cond _ rfl (fun h4 => ?_) (fun h4 => ?_)
     ·replace h4 : (decide (((k15 : Nat) : Int) < (List.length r12 : Int))) = true := h4;obtain ⟨y16, t17, rfl, hx2, hd2⟩ := drop_cons hd2 (decT h4);replace h4 := decT h4;rw [s1109_l2] at hR;(try dsimp only at hR);refine aw_skip ?_;refine aw_cut_g (γ := Int) (fun g => ([(1, .g (G.sl 1 (List.map cInt a1))), (2, .g (G.ref [G.sl 3 (List.map S1122.c a0.stands), G.sl 5 (List.map S1124.c a0.turns), G.int a0.buffer, G.sl 1 (List.map cInt a0.given)])), (5, .ptr 5 0), (6, .g (G.sl 1 (List.map cInt x1))), (7, .g (G.int ((k4 : Nat) : Int))), (8, .g (G.int y5)), (9, .g (G.sl 1 (List.map cInt r11))), (10, .g (G.int g)), (14, .g (G.sl 1 (List.map cInt a1))), (15, .g (G.int (List.length a1 : Int))), (16, .g (G.int ((k4 : Nat) : Int))), (26, .g (G.sl 1 (List.map cInt r12))), (27, .g (G.int (List.length r12 : Int))), (28, .g (G.int ((k15 : Nat) : Int)))], [(5, .box [.g (G.int x3)])])) (fun g => s1109_j2 (fun k_ z0_ => s1109_l2 (fun z0_ z1_ => s1109 kf_ z0_ z1_) (fun k_ z0_ z1_ => s1109_l1 (fun z0_ z1_ => s1109 kf_ z0_ z1_) a0 a1 t6 k_ z0_ z1_) a0 a1 x1 x3 k4 y5 r11 t17 k_ z0_) k15 g = some R) ?_ ?_
      ·refine aw_block ?_;refine aw_seq ?_;refine aw_region [.p, .p, .p] ?_;refine st rfl rfl (eff_ix (f := cInt) (l := r12) (a := y16) rfl Tryz.underlying51 ty3 rfl rfl (Int.natCast_nonneg _) hx2) rfl ?_;refine st rfl rfl (eff_load rfl ty3 rfl) rfl ?_;refine st rfl rfl (eff_assigng rfl rfl) rfl ?_;refine st_nil ?_;refine aw_seq ?_;obtain ⟨y20, by20, hR⟩ := bindO_inv hR;refine aw_region [.p, .p, .p, .p, .p, .p, .p, .p, .p, .p, .p] ?_;refine st rfl rfl (eff_fieldAddr rfl fl1191_3 rfl) rfl ?_;refine st rfl rfl (eff_load rfl ty82 rfl) rfl ?_;refine st rfl rfl (eff_moveg rfl rfl) rfl ?_;refine st rfl rfl (eff_ix (f := cInt) (l := a0.given) (a := y20) rfl Tryz.underlying51 ty3 rfl rfl (ixO_nn by20) (ixO_get by20)) rfl ?_;refine st rfl rfl (eff_load rfl ty3 rfl) rfl ?_;refine st rfl rfl (eff_lss rfl rfl rfl) rfl ?_;refine st rfl rfl (eff_moveg rfl rfl) rfl ?_;refine st_g rfl rfl rfl (gb_bool _ _) (fun h => eff_moveg rfl rfl) rfl ?_;refine st_g rfl rfl rfl (gb_bool _ _) (fun h => eff_moveg rfl rfl) rfl ?_;refine st_g rfl rfl rfl (gb_bool _ _) (fun h => eff_call rfl K144 rfl (c144 a1 y16) (ag_cons (gd h rfl) (ag_cons (gd h rfl) ag_nil))) rfl ?_;refine st rfl rfl (eff_and rfl rfl rfl rfl) rfl ?_;refine st_nil ?_;refine aw_cond _ rfl (fun h8 => ?_) (fun h8 => ?_)
       ·replace h8 : ((decide (y20 < 0)) && (s144 a1 y16)) = true := h8;replace hR := condT hR h8;(try simp only [Bool.or_eq_true, Bool.and_eq_true, Bool.or_eq_false_iff, Bool.and_eq_false_iff, Bool.not_eq_true', Bool.not_eq_false', decide_eq_true_eq, decide_eq_false_iff_not] at h8);refine aw_region [.p, .p, .p] ?_;refine st rfl rfl (eff_moveg rfl rfl) rfl ?_;refine st rfl rfl (eff_addw rfl rfl rfl) rfl ?_;refine st rfl rfl (eff_assigng rfl rfl) rfl ?_;refine st_nil ?_;exact ⟨rfl, IntKind.i64.wrap (x13 + 1), ⟨rfl, rfl, rfl, rfl, rfl, rfl, rfl, rfl, rfl, rfl, rfl, rfl, rfl, rfl, trivial⟩, ⟨rfl, trivial⟩, rfl, hR, trivial⟩
       ·replace h8 : ((decide (y20 < 0)) && (s144 a1 y16)) = false := h8;replace hR := condF hR h8;(try simp only [Bool.or_eq_true, Bool.and_eq_true, Bool.or_eq_false_iff, Bool.and_eq_false_iff, Bool.not_eq_true', Bool.not_eq_false', decide_eq_true_eq, decide_eq_false_iff_not] at h8);refine aw_skip ?_;exact ⟨rfl, x13, ⟨rfl, rfl, rfl, rfl, rfl, rfl, rfl, rfl, rfl, rfl, rfl, rfl, rfl, rfl, trivial⟩, ⟨rfl, trivial⟩, rfl, hR, trivial⟩
      ·rintro x19 hR;replace hR : s1109_j2 (fun k_ z0_ => s1109_l2 (fun z0_ z1_ => s1109 kf_ z0_ z1_) (fun k_ z0_ z1_ => s1109_l1 (fun z0_ z1_ => s1109 kf_ z0_ z1_) a0 a1 t6 k_ z0_ z1_) a0 a1 x1 x3 k4 y5 r11 t17 k_ z0_) k15 x19 = some R := hR;unfold s1109_j2 at hR;refine aw_region [.p, .p] ?_;refine st rfl rfl (eff_add rfl rfl rfl (by unfold I64; omega)) rfl ?_;refine st rfl rfl (eff_moveg rfl rfl) rfl ?_;refine st_nil ?_;exact ⟨rfl, (k15 + 1, t17, x19), ⟨rfl, rfl, rfl, rfl, rfl, rfl, rfl, rfl, rfl, rfl, rfl, rfl, rfl, rfl, trivial⟩, ⟨rfl, trivial⟩, rfl, ⟨hd2, hR⟩, by simp⟩
     ·replace h4 : (decide (((k15 : Nat) : Int) < (List.length r12 : Int))) = false := h4;obtain rfl := drop_nil hd2 (decF h4);rw [s1109_l2] at hR;refine aw_exit ?_;refine aw_seq ?_;refine aw_seq ?_;refine aw_region [.p, .p, .p, .p] ?_;refine st rfl rfl (eff_moveg rfl rfl) rfl ?_;refine st rfl rfl (eff_lenM (f := cInt) (l := r11) rfl Tryz.underlying51 rfl) rfl ?_;refine st rfl rfl (eff_moveg rfl rfl) rfl ?_;refine st rfl rfl (eff_gtr rfl rfl rfl) rfl ?_;refine st_nil ?_;refine aw_cond _ rfl (fun h6 => ?_) (fun h6 => ?_)
      ·replace h6 : (decide (x13 < (List.length r11 : Int))) = true := h6;replace hR := condT hR h6;(try simp only [Bool.or_eq_true, Bool.and_eq_true, Bool.or_eq_false_iff, Bool.and_eq_false_iff, Bool.not_eq_true', Bool.not_eq_false', decide_eq_true_eq, decide_eq_false_iff_not] at h6);refine aw_seq ?_;obtain ⟨r18, br18, hR⟩ := bindO_inv hR;refine aw_draw2 [.pn 52, .pn 52, .w, .pn 52, .pn 52, .pn 52, .kn 52, .pn 52, .pn 52] (by kernel_rfl) ?_;refine st_pn rfl rfl (eff_loadA rfl ty1191 rfl rfl rfl) rfl rfl rfl ?_;refine st_pn rfl rfl (eff_moveg rfl rfl) rfl rfl rfl ?_;refine st_w rfl rfl (eff_callNL (f0 := cInt) (l := a1) 52 rfl K1145 rfl (n1145 a1 (by omega)) (ag_cons rfl ag_nil) rfl) rfl ?_;refine st_pn rfl rfl (eff_moveg rfl rfl) rfl rfl rfl ?_;refine st_pn rfl rfl (eff_moveg rfl rfl) rfl rfl rfl ?_;refine st_pn rfl rfl (eff_add rfl rfl rfl (by unfold I64; (try dsimp only); omega)) rfl rfl rfl ?_;refine st_kn rfl rfl (eff_giveL (f0 := cInt) (l := a1) (l' := (s1144 a1 ((k4 : Nat) : Int) (((k4 : Nat) : Int) + 1)).1) (n := (s1144 a1 ((k4 : Nat) : Int) (((k4 : Nat) : Int) + 1)).2) 52 rfl K1144 rfl (c1144 a1 ((k4 : Nat) : Int) (((k4 : Nat) : Int) + 1) (by first | assumption | omega | (simp [copyL_len]; done) | (simp [copyL_len]; omega)) (by first | assumption | omega | (simp [copyL_len]; done) | (simp [copyL_len]; omega)) (by first | assumption | omega | (simp [copyL_len]; done) | (simp [copyL_len]; omega))) (at_cons rfl rfl (at_cons rfl rfl (at_cons rfl rfl at_nil))) rfl (refsN rfl) (give1144 a1 ((k4 : Nat) : Int) (((k4 : Nat) : Int) + 1) (by omega) (by omega) (by omega))) rfl ?_;refine st_pn rfl rfl (eff_call rfl K1109 rfl (ih a0 (List.take (s1144 a1 ((k4 : Nat) : Int) (((k4 : Nat) : Int) + 1)).2 (s1144 a1 ((k4 : Nat) : Int) (((k4 : Nat) : Int) + 1)).1) hb hb2 hb3 (del_le a1 _ _ (by omega) (by omega) (by omega) hb4) br18) (ag_cons rfl (ag_cons rfl ag_nil))) rfl rfl rfl ?_;refine st_pn rfl rfl (eff_assigng rfl rfl) rfl rfl rfl ?_;refine st_nil ?_;refine aw_ret ?_;obtain rfl := Option.some.inj hR;exact res_c rfl (rv_g rfl)
      ·replace h6 : (decide (x13 < (List.length r11 : Int))) = false := h6;replace hR := condF hR h6;(try simp only [Bool.or_eq_true, Bool.and_eq_true, Bool.or_eq_false_iff, Bool.and_eq_false_iff, Bool.not_eq_true', Bool.not_eq_false', decide_eq_true_eq, decide_eq_false_iff_not] at h6);refine aw_skip ?_;refine aw_seq ?_;refine aw_region [.r, .p, .p, .p, .p, .p, .p, .p, .p] ?_;refine st_r rfl rfl (eff_loadO rfl ty3 rfl rfl rfl) rfl ?_;refine st rfl rfl (eff_lss rfl rfl rfl) rfl ?_;refine st rfl rfl (eff_moveg rfl rfl) rfl ?_;refine st_g rfl rfl rfl (gb_bool _ _) (fun h => eff_moveg rfl rfl) rfl ?_;refine st_g rfl rfl rfl (gb_bool _ _) (fun h => eff_lenM (f := cInt) (l := r11) rfl Tryz.underlying51 (gd h rfl)) rfl ?_;refine st_g rfl rfl rfl (gb_bool _ _) (fun h => eff_moveg rfl rfl) rfl ?_;refine st_g rfl rfl rfl (gb_bool _ _) (fun h => eff_lenM (f := cInt) (l := x1) rfl Tryz.underlying51 (gd h rfl)) rfl ?_;refine st_g rfl rfl rfl (gb_bool _ _) (fun h => eff_lss rfl (gd h rfl) (gd h rfl)) rfl ?_;refine st rfl rfl (eff_or rfl rfl rfl rfl) rfl ?_;refine st_nil ?_;refine aw_cond _ rfl (fun h7 => ?_) (fun h7 => ?_)
       ·replace h7 : ((decide (x3 < 0)) || (decide ((List.length r11 : Int) < (List.length x1 : Int)))) = true := h7;replace hR := condT hR h7;(try simp only [Bool.or_eq_true, Bool.and_eq_true, Bool.or_eq_false_iff, Bool.and_eq_false_iff, Bool.not_eq_true', Bool.not_eq_false', decide_eq_true_eq, decide_eq_false_iff_not] at h7);refine aw_region [.p, .p, .w, .p] ?_;refine st rfl rfl (eff_moveg rfl rfl) rfl ?_;refine st rfl rfl (eff_moveg rfl rfl) rfl ?_;refine st_wn rfl rfl (eff_store (tv := .g (G.int y5)) rfl ty3 rfl rfl rfl rfl rfl) ?_;refine st rfl rfl (eff_assigng rfl rfl) rfl ?_;refine st_nil ?_;exact ⟨rfl, (r11, y5), ⟨rfl, rfl, rfl, rfl, rfl, rfl, rfl, trivial⟩, ⟨rfl, trivial⟩, rfl, hR, trivial⟩
       ·replace h7 : ((decide (x3 < 0)) || (decide ((List.length r11 : Int) < (List.length x1 : Int)))) = false := h7;replace hR := condF hR h7;(try simp only [Bool.or_eq_true, Bool.and_eq_true, Bool.or_eq_false_iff, Bool.and_eq_false_iff, Bool.not_eq_true', Bool.not_eq_false', decide_eq_true_eq, decide_eq_false_iff_not] at h7);refine aw_skip ?_;exact ⟨rfl, (x1, x3), ⟨rfl, rfl, rfl, rfl, rfl, rfl, rfl, trivial⟩, ⟨rfl, trivial⟩, rfl, hR, trivial⟩
   ·rintro ⟨x9, x10⟩ hR;replace hR : s1109_j1 (fun k_ z0_ z1_ => s1109_l1 (fun z0_ z1_ => s1109 kf_ z0_ z1_) a0 a1 t6 k_ z0_ z1_) k4 x9 x10 = some R := hR;unfold s1109_j1 at hR;refine aw_region [.p, .p] ?_;refine st rfl rfl (eff_add rfl rfl rfl (by unfold I64; omega)) rfl ?_;refine st rfl rfl (eff_moveg rfl rfl) rfl ?_;refine st_nil ?_;exact ⟨rfl, (k4 + 1, t6, x9, x10), ⟨rfl, rfl, rfl, rfl, rfl, rfl, rfl, trivial⟩, ⟨rfl, trivial⟩, rfl, ⟨hd, hR⟩, by simp⟩
  ·replace h1 : (decide (((k4 : Nat) : Int) < (List.length a1 : Int))) = false := h1;obtain rfl := drop_nil hd (decF h1);rw [s1109_l1] at hR;refine aw_exit ?_;refine aw_seq ?_;refine aw_seq ?_;refine aw_region [.r, .p] ?_;refine st_r rfl rfl (eff_loadO rfl ty3 rfl rfl rfl) rfl ?_;refine st rfl rfl (eff_lss rfl rfl rfl) rfl ?_;refine st_nil ?_;refine aw_cond _ rfl (fun h3 => ?_) (fun h3 => ?_)
   ·replace h3 : (decide (x3 < 0)) = true := h3;replace hR := condT hR h3;(try simp only [Bool.or_eq_true, Bool.and_eq_true, Bool.or_eq_false_iff, Bool.and_eq_false_iff, Bool.not_eq_true', Bool.not_eq_false', decide_eq_true_eq, decide_eq_false_iff_not] at h3);refine aw_seq ?_;refine aw_region [.p] ?_;refine st rfl rfl (eff_assigng rfl rfl) rfl ?_;refine st_nil ?_;refine aw_ret ?_;obtain rfl := Option.some.inj hR;exact res_c rfl (rv_g rfl)
   ·replace h3 : (decide (x3 < 0)) = false := h3;replace hR := condF hR h3;(try simp only [Bool.or_eq_true, Bool.and_eq_true, Bool.or_eq_false_iff, Bool.and_eq_false_iff, Bool.not_eq_true', Bool.not_eq_false', decide_eq_true_eq, decide_eq_false_iff_not] at h3);refine aw_skip ?_;refine aw_seq ?_;refine aw_freeze (l := [(1, .g (G.sl 1 (List.map cInt a1))), (2, .g (G.ref [G.sl 3 (List.map S1122.c a0.stands), G.sl 5 (List.map S1124.c a0.turns), G.int a0.buffer, G.sl 1 (List.map cInt a0.given)])), (5, .g (G.ref [G.int x3])), (6, .g (G.sl 1 (List.map cInt x1)))]) (m := []) 5 rfl ⟨.inl ⟨rfl, rfl⟩, .inl ⟨rfl, rfl⟩, .inr (frz_box rfl), .inl ⟨rfl, rfl⟩, trivial⟩ trivial rfl rfl ?_;obtain ⟨r7, br7, hR⟩ := bindO_inv hR;refine aw_region [.p, .w, .p, .k, .w, .w] ?_;refine st rfl rfl (eff_moveg rfl rfl) rfl ?_;refine st_w rfl rfl (eff_callNL (f0 := cInt) (l := a1) 73 rfl K1145 rfl (n1145 a1 (by omega)) (ag_cons rfl ag_nil) rfl) rfl ?_;refine st rfl rfl (eff_makeF rfl rfl rfl) rfl ?_;refine st_k rfl rfl (eff_giveL (f0 := cInt) (l := a1) (l' := r7.1) (n := r7.2) 73 rfl K1146 rfl (c1146 a1 (fun x0 => s1147 x0 x3) fnis_fn K1147 (fun x0 => c1147 x0 x3) br7) (at_cons rfl rfl (at_cons rfl rfl at_nil)) rfl (refsN rfl) (give1146 br7)) rfl ?_;refine st_w rfl rfl (eff_alloc 13 rfl z82 rfl rfl) rfl ?_;refine st_wn rfl rfl (eff_store (tv := .g (G.sl 1 (List.map cInt (List.take r7.2 r7.1)))) rfl ty82 rfl rfl rfl rfl rfl) ?_;refine st_nil ?_;refine aw_seq ?_;refine aw_freeze (l := [(2, .g (G.ref [G.sl 3 (List.map S1122.c a0.stands), G.sl 5 (List.map S1124.c a0.turns), G.int a0.buffer, G.sl 1 (List.map cInt a0.given)])), (5, .g (G.ref [G.int x3])), (6, .g (G.sl 1 (List.map cInt x1))), (13, .g (G.ref [G.sl 1 (List.map cInt (List.take r7.2 r7.1))]))]) (m := []) 13 rfl ⟨.inl ⟨rfl, rfl⟩, .inl ⟨rfl, rfl⟩, .inl ⟨rfl, rfl⟩, .inr (frz_box rfl), trivial⟩ trivial rfl rfl ?_;obtain ⟨r8, br8, hR⟩ := bindO_inv hR;refine aw_region [.p, .p, .p, .p] ?_;refine st rfl rfl (eff_moveg rfl rfl) rfl ?_;refine st rfl rfl (eff_makeF rfl rfl rfl) rfl ?_;refine st rfl rfl (eff_call rfl K1140 rfl (c1140p x1 (fun x0 => s1148 (s1109 kf_) x0 a0 x3 (List.take r7.2 r7.1)) fnis_fn K1148 (fun x0 r_ h_ => c1148 (s1109 kf_) x0 a0 x3 (List.take r7.2 r7.1) (fun q r R g1 g2 g3 g4 h => ih q r g1 g2 g3 g4 h) hb hb2 hb3 (del_rest br7 hb4) h_) br8) (ag_cons rfl (ag_cons rfl ag_nil))) rfl ?_;refine st rfl rfl (eff_assigng rfl rfl) rfl ?_;refine st_nil ?_;refine aw_ret ?_;obtain rfl := Option.some.inj hR;exact res_c rfl (rv_g rfl)
section
variable {E : Env} {o : Oper} {ev : Operand → TV} {t t' : TypeId} {x y : Operand}
theorem eff_uand {a c : Int} (ho : o.op = .binOp .and t x y t') (hx : ev x = .g (.lit (.int .u64 a))) (hy : ev y = .g (.lit (.int .u64 4294967295))) (h0 : 0 ≤ a) (h1 : a ≤ 4294967295) (hc : a = c) (mem : Mem) : Eff E o mem ev (.g (.lit (.int .u64 c))) := by
 subst hc
 have e : IntKind.u64.wrap ((BitVec.ofInt 64 a &&& BitVec.ofInt 64 4294967295).toNat : Int) = a := by
  have h2 : (BitVec.ofInt 64 a &&& BitVec.ofInt 64 4294967295).toNat = a.toNat := by
   rw [BitVec.toNat_and, BitVec.toNat_ofInt, BitVec.toNat_ofInt]
   have e1 : (a % ((2 ^ 64 : Nat) : Int)).toNat = a.toNat := by omega
   have e2 : ((4294967295 : Int) % ((2 ^ 64 : Nat) : Int)).toNat = 2 ^ 32 - 1 := by decide
   rw [e1, e2, Nat.and_two_pow_sub_one_eq_mod]
   omega
  rw [h2, Int.toNat_of_nonneg h0, wrap_u64 h0 (by omega)]
 have := eff_int (E := E) (o := o) (ev := ev) (op := .and) (t := t) (x := x) (y := y) (t' := t') (k := .u64) (a := a) (b := 4294967295) (r := .int .u64 (IntKind.u64.wrap ((BitVec.ofInt 64 a &&& BitVec.ofInt 64 4294967295).toNat : Int))) ho hx hy rfl mem
 rwa [e] at this
theorem eff_ushr {a c : Int} (ho : o.op = .binOp .shr t x y t') (hx : ev x = .g (.lit (.int .u64 a))) (hy : ev y = .g (.lit (.int .u64 32))) (h0 : 0 ≤ a) (h1 : a ≤ 4294967295) (hc : 0 = c) (mem : Mem) : Eff E o mem ev (.g (.lit (.int .u64 c))) := by
 subst hc
 exact eff_bin ho hx hy (fun w => ⟨.int .u64 0, by
  have h2 : Int.fdiv a (2 ^ min (32 : Int).toNat IntKind.u64.bits) = 0 := by
   rw [Int.fdiv_eq_ediv_of_nonneg a (by decide)]
   exact Int.ediv_eq_zero_of_lt h0 (by
    have : (2 : Int) ^ min (32 : Int).toNat IntKind.u64.bits = 4294967296 := by decide
    omega)
  simp only [eqGuard, binOp, Op.shift, h2]
  rfl, fun _ => rfl⟩) mem
theorem eff_umul {a b c : Int} (ho : o.op = .binOp .mul t x y t') (hx : ev x = .g (.lit (.int .u64 a))) (hy : ev y = .g (.lit (.int .u64 b))) (hc : a * b = c) (h0 : 0 ≤ c) (h1 : c ≤ 9223372036854775807) (mem : Mem) : Eff E o mem ev (.g (.lit (.int .u64 c))) := by
 have := eff_mulw (E := E) ho hx hy mem
 rwa [hc, wrap_u64 h0 h1] at this
theorem eff_uadd {a b c : Int} (ho : o.op = .binOp .add t x y t') (hx : ev x = .g (.lit (.int .u64 a))) (hy : ev y = .g (.lit (.int .u64 b))) (hc : a + b = c) (h0 : 0 ≤ c) (h1 : c ≤ 9223372036854775807) (mem : Mem) : Eff E o mem ev (.g (.lit (.int .u64 c))) := by
 have := eff_addw (E := E) ho hx hy mem
 rwa [hc, wrap_u64 h0 h1] at this
end
section
variable {E : Env} {w0 : World} {M0 : Nat → Prop}
theorem eff_copyW {α : Type} {o : Oper} {mem : Mem} {ev : Operand → TV} {t t2 e : TypeId} {x y : Operand} {k by_ id N c : Nat} {d s : List α} {f : α → List G} (ho : o.op = .call ⟨.builtin .copy, #[x, y], #[t, t2]⟩) (ha : appK E.P t = some (e, k + 1, by_)) (hx : ev x = .osl id (k + 1) c N) (hN : d.length = N) (hcN : c < N)
  (hb : lookO mem id = some (.arr e (k + 1) (d.map f))) (hsrc : SrcT E mem (k + 1) (s.map f) (ev y)) : EffW E o mem ev (.g (.int ((min s.length (N - c) : Nat) : Int))) ((id, .arr e (k + 1) ((d.take c ++ s.take (min s.length (N - c)) ++ d.drop (c + min s.length (N - c))).map f)) :: mem) none := by
 intro w0 M0 ρ w e' hm he;subst hN;have h1 := he x (by rw [ho]; simp [Op.operands, Call.operands]);rw [hx] at h1;have h2 := he y (by rw [ho]; simp [Op.operands, Call.operands]);obtain ⟨i, z, t1, t2', t3, t4, t5, t6⟩ := appK_spec ha;obtain ⟨news, n1, nl, a, cp, hv, ncell⟩ := hsrc.2 w0 M0 ρ w _ hm h2;have hmin : (Nat.min s.length (d.length - c)) = min s.length (d.length - c) := rfl
 have hnl : news.length = s.length * (k + 1) := by rw [nl, List.length_map]
 rw [List.length_map] at hv;generalize hmm : min s.length (d.length - c) = m at *
 have hms : m ≤ s.length := by omega
 have hmd : c + m ≤ d.length := by omega
 let cs := news.take (m * (k + 1))
 have hle : m * (k + 1) ≤ s.length * (k + 1) := Nat.mul_le_mul_right _ hms
 have hcs : cs.length = m * (k + 1) := by simp only [cs, List.length_take]; omega
 have hone : ∀ u ∈ cs, u.oneCell' = true := fun u hu => n1.one u (List.mem_of_mem_take hu)
 have hfirst : (Builtin.firstCells (k + 1) m (.slice a s.length cp)).run E.P w = .ok cs.toArray w := by
  by_cases h0 : m = 0
  ·have : cs = [] := List.eq_nil_of_length_eq_zero (by rw [hcs, h0]; simp);rw [h0, this]
   cases a with
   | none => simp [Builtin.firstCells]
   | some a => simp [Builtin.firstCells, loadCells, loadCellsFrom]
  ·rcases ncell with h | ⟨b, o', rfl, hcell⟩
   ·rw [List.length_map] at h; omega
   ·refine run_firstCells_some (P := E.P) w (k + 1) _ ⟨b, o', none⟩ _ cp cs hcs ?_;intro j v hj;rw [Addr.add_lit];refine hcell j v ?_;simp only [cs, List.getElem?_take] at hj
    split at hj
    ·exact hj
    ·cases hj
 have hlenS : (Builtin.lenOf (.slice a s.length cp)).run E.P w = .ok s.length w := by simp [Builtin.lenOf]
 rcases hm.blk id _ hb with ⟨g1, g2⟩ | ⟨ow, cur, g1, g2, g3, g4, g5, g6, g7⟩
 ·have hd0 : d = [] := by simpa using g2
  rw [hd0] at hcN; simp at hcN
 rw [List.length_map] at g3 g7
 have hex : e' x = .slice (some ⟨ow.b, ow.o + c * (k + 1), none⟩) (d.length - c) (ow.cap - c) := by
  rcases h1 with ⟨h, _⟩ | ⟨ow', h, _, h4, p, h5, h6⟩
  ·rw [g1] at h; cases h
  ·have : ow' = ow := by rw [g1] at h; simpa using h.symm
   subst this;rw [h5, h6 (by omega)]
 have hcap : ow.o + ow.cap * (k + 1) ≤ cur.size := g5.resolve_left (by omega);have hNk : d.length * (k + 1) ≤ ow.cap * (k + 1) := Nat.mul_le_mul_right _ g3;have hmk : (c + m) * (k + 1) ≤ d.length * (k + 1) := Nat.mul_le_mul_right _ hmd;have hmul : (c + m) * (k + 1) = c * (k + 1) + m * (k + 1) := Nat.add_mul _ _ _;have hcl : cur.toList.length = cur.size := Array.length_toList;obtain ⟨w', cur', r1, r2, r3, r4, r5, r6, r7, r8⟩ := run_storeCells (P := E.P) ow.b (ow.o + c * (k + 1)) e cs 0 cur w g2 (by omega) hone
 have hrun : (execOp e' o).run E.P w = .ok (.value (.int .i64 ((m : Nat) : Int))) w' := by
  have hmm2 : Nat.min s.length (d.length - c) = m := hmm
  have hmm3 : min (d.length - c) s.length = m := by omega
  simp [execOp, ho, resolve, invoke, builtin, Builtin.copy_, hex, hv, run_underlying t1, hlenS, sizeOf, typeInfo, t2', t4, goInt, hmm, hmm2, hmm3, hfirst, r1]
 rw [hrun];rw [Nat.add_zero] at r3
 have rsz : cur'.size = cur.size := by
  rw [← Array.length_toList, r3, ← Array.length_toList (xs := cur)];simp only [setAt, List.length_append, List.length_take, List.length_drop]
  omega
 have hdf : Diff ρ id w w' := ⟨r6, r7, r8, by omega, fun q _ hne => r4 q (hne ow g1)⟩
 have hM : ∀ q, q < w.heap.size → owned M0 (rhoSet ρ id (some ow)) q → owned M0 ρ q := by
  rintro q hq (h | ⟨j, o, h, rfl⟩)
  ·exact .inl h
  ·by_cases hj : j = id
   ·subst hj; rw [rhoSet_same] at h; cases h; exact .inr ⟨j, ow, g1, rfl⟩
   ·exact .inr ⟨j, o, by simpa [rhoSet, hj] using h, rfl⟩
 have hh : ∀ q, q < w.heap.size → ¬ owned M0 ρ q → w'.heap[q]? = w.heap[q]? := fun q _ hno => r4 q fun he => hno (.inr ⟨id, ow, g1, he.symm⟩)
 have hlen : ((d.take c ++ s.take m ++ d.drop (c + m)).map f).length = d.length := by simp; omega
 have hrow : (cur'.toList.drop ow.o).take (d.length * (k + 1)) = ((cur.toList.drop ow.o).take (d.length * (k + 1))).take (c * (k + 1)) ++ cs ++ ((cur.toList.drop ow.o).take (d.length * (k + 1))).drop ((c + m) * (k + 1)) := by
  rw [r3, hmul, ← hcs];exact set_row (by rw [hcs]; omega) (by rw [hcl]; omega)
 have hsk : ∀ x ∈ s.map f, x.length = k + 1 := hsrc.1
 have hfits : Fits w' (owned M0 (rhoSet ρ id (some ow))) ((d.take c ++ s.take m ++ d.drop (c + m)).map f).flatten ((cur'.toList.drop ow.o).take (d.length * (k + 1))) := by
  rw [hrow, List.map_append, List.map_append, List.flatten_append, List.flatten_append, List.map_take, List.map_take, List.map_drop, ← flatten_take (k := k + 1) c g6, ← flatten_take (k := k + 1) m hsk, ← flatten_drop (k := k + 1) (c + m) g6];exact (((g7.take _).append (n1.take _)).append (g7.drop _)).mono hh hM
 obtain ⟨k1, k2⟩ := mrel_upd (id := id) (x := some ow) (blk' := .arr e (k + 1) ((d.take c ++ s.take m ++ d.drop (c + m)).map f)) none hm hdf (fun o ho => by cases ho; exact ⟨.inr ⟨ow, g1, rfl⟩, by rw [r5]; exact (hm.fresh id ow g1).2⟩) (.inr ⟨rfl, .inr g1⟩) (fun _ b _ _ => noref_none b) (.inl rfl)
  (.inr ⟨ow, cur', rhoSet_same _ _ _, r2, by rw [hlen]; exact g3, g4, g5.imp (fun h => h) (fun h => by rw [rsz]; exact h), fun q hq => by
    rw [List.map_append, List.map_append] at hq
    rcases List.mem_append.1 hq with hq | hq
    ·rcases List.mem_append.1 hq with hq | hq
     ·rw [List.map_take] at hq; exact g6 q (List.mem_of_mem_take hq)
     ·rw [List.map_take] at hq; exact hsk q (List.mem_of_mem_take hq)
    ·rw [List.map_drop] at hq; exact g6 q (List.mem_of_mem_drop hq), by rw [hlen]; exact hfits⟩)
 exact ⟨_, k1, k2, rfl⟩
theorem cpy_len {α : Type} {d s : List α} {c N : Nat} (hN : d.length = N) (hc : c < N) : (d.take c ++ s.take (min s.length (N - c)) ++ d.drop (c + min s.length (N - c))).length = N := by simp; omega
end
end Go.Sim
set_option maxRecDepth 10000
namespace Go.Sim
open Go.Proofs
def s1169 (a0 : Int) (a1 : Int) : Int × Int :=
 (0, a0 * a1)
theorem c1169 {g : List (Nat × List Value)} (a0 : Int) (a1 : Int)  (hx0 : 0 ≤ a0) (hx1 : a0 ≤ 65535) (hy0 : 0 ≤ a1) (hy1 : a1 ≤ 65535) (hm0 : 0 ≤ a0 * a1) (hm1 : a0 * a1 ≤ 4294967295)  : Con (EG g) 134 [G.lit (.int .u64 a0), G.lit (.int .u64 a1)] (G.tup [G.lit (.int .u64 ((s1169 a0 a1).1)), G.lit (.int .u64 ((s1169 a0 a1).2))]) := by
 generalize hR : s1169 a0 a1 = R;unfold s1169 at hR;refine con_of_aw Tryz.func134 rfl rfl fun w0 M0 => ?_;refine aw_seq ?_;refine aw_region [.p, .p] ?_;refine st rfl rfl (eff_assigng rfl rfl) rfl ?_;refine st rfl rfl (eff_assigng rfl rfl) rfl ?_;refine st_nil ?_;refine aw_seq ?_;refine aw_region [.p, .p, .p] ?_;refine st rfl rfl (eff_moveg rfl rfl) rfl ?_;refine st rfl rfl (eff_uand rfl rfl rfl (by omega) (by omega) rfl) rfl ?_;refine st rfl rfl (eff_assigng rfl rfl) rfl ?_;refine st_nil ?_;refine aw_seq ?_;refine aw_region [.p, .p, .p] ?_;refine st rfl rfl (eff_moveg rfl rfl) rfl ?_;refine st rfl rfl (eff_ushr rfl rfl rfl (by omega) (by omega) rfl) rfl ?_;refine st rfl rfl (eff_assigng rfl rfl) rfl ?_;refine st_nil ?_;refine aw_seq ?_;refine aw_region [.p, .p, .p] ?_;refine st rfl rfl (eff_moveg rfl rfl) rfl ?_;refine st rfl rfl (eff_uand rfl rfl rfl (by omega) (by omega) rfl) rfl ?_;refine st rfl rfl (eff_assigng rfl rfl) rfl ?_;refine st_nil ?_;refine aw_seq ?_;refine aw_region [.p, .p, .p] ?_;refine st rfl rfl (eff_moveg rfl rfl) rfl ?_;refine st rfl rfl (eff_ushr rfl rfl rfl (by omega) (by omega) rfl) rfl ?_;refine st rfl rfl (eff_assigng rfl rfl) rfl ?_;refine st_nil ?_;refine aw_seq ?_;refine aw_region [.p, .p, .p, .p] ?_;refine st rfl rfl (eff_moveg rfl rfl) rfl ?_;refine st rfl rfl (eff_moveg rfl rfl) rfl ?_;refine st rfl rfl (eff_umul rfl rfl rfl rfl hm0 (by omega)) rfl ?_;refine st rfl rfl (eff_assigng rfl rfl) rfl ?_;refine st_nil ?_;refine aw_seq ?_;refine aw_region [.p, .p, .p, .p, .p, .p, .p] ?_;refine st rfl rfl (eff_moveg rfl rfl) rfl ?_;refine st rfl rfl (eff_moveg rfl rfl) rfl ?_;refine st rfl rfl (eff_umul rfl rfl rfl (Int.zero_mul _) (by omega) (by omega)) rfl ?_;refine st rfl rfl (eff_moveg rfl rfl) rfl ?_;refine st rfl rfl (eff_ushr rfl rfl rfl (by omega) (by omega) rfl) rfl ?_;refine st rfl rfl (eff_uadd rfl rfl rfl rfl (by omega) (by omega)) rfl ?_;refine st rfl rfl (eff_assigng rfl rfl) rfl ?_;refine st_nil ?_;refine aw_seq ?_;refine aw_region [.p, .p, .p] ?_;refine st rfl rfl (eff_moveg rfl rfl) rfl ?_;refine st rfl rfl (eff_uand rfl rfl rfl (by omega) (by omega) rfl) rfl ?_;refine st rfl rfl (eff_assigng rfl rfl) rfl ?_;refine st_nil ?_;refine aw_seq ?_;refine aw_region [.p, .p, .p] ?_;refine st rfl rfl (eff_moveg rfl rfl) rfl ?_;refine st rfl rfl (eff_ushr rfl rfl rfl (by omega) (by omega) rfl) rfl ?_;refine st rfl rfl (eff_assigng rfl rfl) rfl ?_;refine st_nil ?_;refine aw_seq ?_;refine aw_region [.p, .p, .p, .p, .p, .p] ?_;refine st rfl rfl (eff_moveg rfl rfl) rfl ?_;refine st rfl rfl (eff_moveg rfl rfl) rfl ?_;refine st rfl rfl (eff_moveg rfl rfl) rfl ?_;refine st rfl rfl (eff_umul rfl rfl rfl (Int.mul_zero _) (by omega) (by omega)) rfl ?_;refine st rfl rfl (eff_uadd rfl rfl rfl rfl (by omega) (by omega)) rfl ?_;refine st rfl rfl (eff_assigng rfl rfl) rfl ?_;refine st_nil ?_;refine aw_seq ?_;refine aw_region [.p, .p, .p, .p, .p, .p, .p, .p, .p] ?_;refine st rfl rfl (eff_moveg rfl rfl) rfl ?_;refine st rfl rfl (eff_moveg rfl rfl) rfl ?_;refine st rfl rfl (eff_umul rfl rfl rfl rfl (by omega) (by omega)) rfl ?_;refine st rfl rfl (eff_moveg rfl rfl) rfl ?_;refine st rfl rfl (eff_uadd rfl rfl rfl rfl (by omega) (by omega)) rfl ?_;refine st rfl rfl (eff_moveg rfl rfl) rfl ?_;refine st rfl rfl (eff_ushr rfl rfl rfl (by omega) (by omega) rfl) rfl ?_;refine st rfl rfl (eff_uadd rfl rfl rfl rfl (by omega) (by omega)) rfl ?_;refine st rfl rfl (eff_assigng rfl rfl) rfl ?_;refine st_nil ?_;refine aw_seq ?_;refine aw_region [.p, .p, .p, .p] ?_;refine st rfl rfl (eff_moveg rfl rfl) rfl ?_;refine st rfl rfl (eff_moveg rfl rfl) rfl ?_;refine st rfl rfl (eff_umul rfl rfl rfl rfl hm0 (by omega)) rfl ?_;refine st rfl rfl (eff_assigng rfl rfl) rfl ?_;refine st_nil ?_;refine aw_ret ?_;subst hR;exact resN rfl ⟨rv_g rfl, rv_g rfl, trivial⟩ (by simp)
def s1139 (a0 : Int) (a1 : Int) : Int × Int :=
 ((s1169 a0 a1).1, (s1169 a0 a1).2)
theorem c1139 {g : List (Nat × List Value)} (a0 : Int) (a1 : Int)  (hx0 : 0 ≤ a0) (hx1 : a0 ≤ 65535) (hy0 : 0 ≤ a1) (hy1 : a1 ≤ 65535) (hm0 : 0 ≤ a0 * a1) (hm1 : a0 * a1 ≤ 4294967295)  : Con (EG g) 87 [G.lit (.int .u64 a0), G.lit (.int .u64 a1)] (G.tup [G.lit (.int .u64 ((s1139 a0 a1).1)), G.lit (.int .u64 ((s1139 a0 a1).2))]) := by
 generalize hR : s1139 a0 a1 = R;unfold s1139 at hR;refine con_of_aw Tryz.func87 rfl rfl fun w0 M0 => ?_;refine aw_seq ?_;refine aw_region [.p, .p] ?_;refine st rfl rfl (eff_assigng rfl rfl) rfl ?_;refine st rfl rfl (eff_assigng rfl rfl) rfl ?_;refine st_nil ?_;refine aw_seq ?_;refine aw_cond _ rfl (fun h1 => ?_) (fun h1 => ?_)
 ·exfalso; exact Bool.noConfusion h1
 ·replace h1 : (false) = false := h1;(try simp only [Bool.or_eq_true, Bool.and_eq_true, Bool.or_eq_false_iff, Bool.and_eq_false_iff, Bool.not_eq_true', Bool.not_eq_false', decide_eq_true_eq, decide_eq_false_iff_not] at h1);refine aw_skip ?_;refine aw_seq ?_;refine aw_region [.p, .p, .p, .p, .p, .p, .p, .p] ?_;refine st rfl rfl (eff_moveg rfl rfl) rfl ?_;refine st rfl rfl (eff_moveg rfl rfl) rfl ?_;refine st rfl rfl (eff_call rfl K1169 rfl (c1169 a0 a1 (by first | assumption | omega | (simp [copyL_len]; done) | (simp [copyL_len]; omega)) (by first | assumption | omega | (simp [copyL_len]; done) | (simp [copyL_len]; omega)) (by first | assumption | omega | (simp [copyL_len]; done) | (simp [copyL_len]; omega)) (by first | assumption | omega | (simp [copyL_len]; done) | (simp [copyL_len]; omega)) (by first | assumption | omega | (simp [copyL_len]; done) | (simp [copyL_len]; omega)) (by first | assumption | omega | (simp [copyL_len]; done) | (simp [copyL_len]; omega))) (ag_cons rfl (ag_cons rfl ag_nil))) rfl ?_;refine st rfl rfl (eff_moveg rfl rfl) rfl ?_;refine st rfl rfl (eff_extract rfl rfl rfl) rfl ?_;refine st rfl rfl (eff_extract rfl rfl rfl) rfl ?_;refine st rfl rfl (eff_assigng rfl rfl) rfl ?_;refine st rfl rfl (eff_assigng rfl rfl) rfl ?_;refine st_nil ?_;refine aw_seq ?_;refine aw_region [.p, .p, .p, .p] ?_;refine st rfl rfl (eff_moveg rfl rfl) rfl ?_;refine st rfl rfl (eff_moveg rfl rfl) rfl ?_;refine st rfl rfl (eff_assigng rfl rfl) rfl ?_;refine st rfl rfl (eff_assigng rfl rfl) rfl ?_;refine st_nil ?_;refine aw_ret ?_;subst hR;exact resN rfl ⟨rv_g rfl, rv_g rfl, trivial⟩ (by simp)
theorem mulR {g : List (Nat × List Value)} {n : Nat} {a : Int} (hl : n = 1) (h0 : 0 ≤ a) (h1 : a ≤ 8) : Con (EG g) 87 [G.lit (.int .u64 (n : Int)), G.lit (.int .u64 a)] (G.tup [G.lit (.int .u64 (a - a)), G.lit (.int .u64 a)]) := by
 subst hl
 have e : ((1 : Nat) : Int) * a = a := by rw [show ((1 : Nat) : Int) = 1 from rfl, Int.one_mul]
 have := c1139 (g := g) ((1 : Nat) : Int) a (by omega) (by omega) h0 (by omega) (by rw [e]; exact h0) (by rw [e]; omega)
 have e2 : s1139 ((1 : Nat) : Int) a = (0, a) := by
  show ((0 : Int), ((1 : Nat) : Int) * a) = _;rw [e]
 rw [e2] at this;rw [Int.sub_self];exact this
end Go.Sim
set_option maxRecDepth 10000
namespace Go.Sim
open Go.Proofs
def s1105_l1 (a1 : Int) : Nat → Int → (List Int) → Option (List Int)
 | 0, _, _ => none
 | k4 + 1, x1, x2 => (bif decide (x1 < (Int.toNat a1 : Int)) then s1105_l1 a1 k4 (x1 + ((min (List.length (List.take (Int.toNat x1) x2)) ((Int.toNat a1) - (Int.toNat x1)) : Nat) : Int)) (List.take (Int.toNat x1) x2 ++ List.take (min (List.length (List.take (Int.toNat x1) x2)) ((Int.toNat a1) - (Int.toNat x1))) (List.take (Int.toNat x1) x2) ++ List.drop ((Int.toNat x1) + min (List.length (List.take (Int.toNat x1) x2)) ((Int.toNat a1) - (Int.toNat x1))) x2) else some x2)
def s1105_j1 (a0 : List Int) (a1 : Int)  : Option (List Int) :=
 s1105_l1 a1 ((((Int.toNat a1 : Int) - ((min (List.length a0) (List.length (List.replicate (Int.toNat a1) (0 : Int))) : Nat) : Int)).toNat) + 1) ((min (List.length a0) (List.length (List.replicate (Int.toNat a1) (0 : Int))) : Nat) : Int) (copyL (List.replicate (Int.toNat a1) (0 : Int)) a0)
def s1105_j2 (a0 : List Int) (a1 : Int)  : Option (List Int) :=
 s1105_j1 a0 a1
def s1105 (a0 : List Int) (a1 : Int) : Option (List Int) :=
 s1105_j2 a0 a1
theorem c1105 {g : List (Nat × List Value)} (a0 : List Int) (a1 : Int) {R : List Int}  (hl : a0.length = 1) (hn : 0 ≤ a1) (hn2 : a1 ≤ 8) (hR : s1105 a0 a1 = some R) : Con (EG g) 38 [G.sl 1 (List.map cInt a0), G.int a1] (G.sl 1 (List.map cInt R)) := by
 unfold s1105 at hR;refine con_of_aw Tryz.func38 rfl rfl fun w0 M0 => ?_;refine len_sl (f := cInt) (l := a0) 0 rfl fun hla0 => ?_;refine aw_seq ?_;refine aw_region [.w] ?_;refine st_w rfl rfl (eff_nilL 4 3 1 rfl rfl rfl) rfl ?_;refine st_nil ?_;refine aw_cut_g (γ := Unit) (fun g => ([(0, .g (G.sl 1 (List.map cInt a0))), (1, .g (G.int a1))], [])) (fun g => s1105_j2 a0 a1 = some R) ?_ ?_
 ·refine aw_seq ?_;refine aw_region [.p, .p] ?_;refine st rfl rfl (eff_moveg rfl rfl) rfl ?_;refine st rfl rfl (eff_lss rfl rfl rfl) rfl ?_;refine st_nil ?_;refine aw_cond _ rfl (fun h3 => ?_) (fun h3 => ?_)
  ·(try simp only [Bool.or_eq_true, Bool.and_eq_true, Bool.or_eq_false_iff, Bool.and_eq_false_iff, Bool.not_eq_true', Bool.not_eq_false', decide_eq_true_eq, decide_eq_false_iff_not] at h3)
   exfalso; omega
  ·replace h3 : (decide (a1 < 0)) = false := h3;(try simp only [Bool.or_eq_true, Bool.and_eq_true, Bool.or_eq_false_iff, Bool.and_eq_false_iff, Bool.not_eq_true', Bool.not_eq_false', decide_eq_true_eq, decide_eq_false_iff_not] at h3);refine aw_skip ?_;exact ⟨rfl, (), ⟨rfl, rfl, trivial⟩, trivial, rfl, hR, trivial⟩
 ·rintro ⟨⟩ hR;replace hR : s1105_j2 a0 a1 = some R := hR;unfold s1105_j2 at hR;refine aw_seq ?_;refine aw_region [.p, .p, .p, .p, .p, .p, .p, .p, .p, .p, .p] ?_;refine st rfl rfl (eff_moveg rfl rfl) rfl ?_;refine st rfl rfl (eff_lenM (f := cInt) (l := a0) rfl Tryz.underlying51 rfl) rfl ?_;refine st rfl rfl (eff_convu rfl Tryz.underlying3 Tryz.underlying142 rfl (by (try dsimp only); omega) (by (try dsimp only); omega)) rfl ?_;refine st rfl rfl (eff_moveg rfl rfl) rfl ?_;refine st rfl rfl (eff_convu rfl Tryz.underlying3 Tryz.underlying142 rfl (by (try dsimp only); omega) (by (try dsimp only); omega)) rfl ?_;refine st rfl rfl (eff_call rfl K1139 rfl (mulR hl hn hn2) (ag_cons rfl (ag_cons rfl ag_nil))) rfl ?_;refine st rfl rfl (eff_moveg rfl rfl) rfl ?_;refine st rfl rfl (eff_extract rfl rfl rfl) rfl ?_;refine st rfl rfl (eff_extract rfl rfl rfl) rfl ?_;refine st rfl rfl (eff_assigng rfl rfl) rfl ?_;refine st rfl rfl (eff_assigng rfl rfl) rfl ?_;refine st_nil ?_;refine aw_cut_g (γ := Unit) (fun g => ([(0, .g (G.sl 1 (List.map cInt a0))), (6, .g (G.lit (.int .u64 a1)))], [])) (fun g => s1105_j1 a0 a1 = some R) ?_ ?_
  ·refine aw_seq ?_;refine aw_region [.p, .p, .p, .p, .p, .p] ?_;refine st rfl rfl (eff_moveg rfl rfl) rfl ?_;refine st rfl rfl (eff_gtr rfl rfl rfl) rfl ?_;refine st rfl rfl (eff_moveg rfl rfl) rfl ?_;refine st_g rfl rfl rfl (gb_bool _ _) (fun h => eff_moveg rfl rfl) rfl ?_;refine st_g rfl rfl rfl (gb_bool _ _) (fun h => eff_gtr rfl (gd h rfl) rfl) rfl ?_;refine st rfl rfl (eff_or rfl rfl rfl rfl) rfl ?_;refine st_nil ?_;refine aw_cond _ rfl (fun h2 => ?_) (fun h2 => ?_)
   ·(try simp only [Bool.or_eq_true, Bool.and_eq_true, Bool.or_eq_false_iff, Bool.and_eq_false_iff, Bool.not_eq_true', Bool.not_eq_false', decide_eq_true_eq, decide_eq_false_iff_not] at h2)
    exfalso; omega
   ·replace h2 : ((decide (0 < a1 - a1)) || (decide (9223372036854775807 < a1))) = false := h2;(try simp only [Bool.or_eq_true, Bool.and_eq_true, Bool.or_eq_false_iff, Bool.and_eq_false_iff, Bool.not_eq_true', Bool.not_eq_false', decide_eq_true_eq, decide_eq_false_iff_not] at h2);refine aw_skip ?_;exact ⟨rfl, (), ⟨rfl, rfl, trivial⟩, trivial, rfl, hR, trivial⟩
  ·rintro ⟨⟩ hR;replace hR : s1105_j1 a0 a1 = some R := hR;unfold s1105_j1 at hR;refine aw_seq ?_;refine aw_region [.p, .p, .w, .p] ?_;refine st rfl rfl (eff_moveg rfl rfl) rfl ?_;refine st rfl rfl (eff_convi rfl Tryz.underlying142 Tryz.underlying3 rfl (by unfold I64; (try dsimp only); omega)) rfl ?_;refine st_w rfl rfl (eff_makeS (f := cInt) (z := (0 : Int)) 30 rfl mk82 rfl rfl (Int.toNat_of_nonneg hn).symm (by first | exact Int.le_refl _ | omega) (by first | decide | omega) rfl rfl rfl) rfl ?_;refine st rfl rfl (eff_assignO rfl rfl) rfl ?_;refine st_nil ?_;refine aw_seq ?_;refine aw_region [.p, .p, .w, .p] ?_;refine st rfl rfl (eff_moveO rfl rfl) rfl ?_;refine st rfl rfl (eff_moveg rfl rfl) rfl ?_;refine st_w rfl rfl (eff_copyL (f := cInt) (d := List.replicate (Int.toNat a1) (0 : Int)) (s := a0) rfl app82 rfl List.length_replicate rfl (src_eq rfl (src_sl (by decide) (by simp [])))) rfl ?_;refine st rfl rfl (eff_assigng rfl rfl) rfl ?_;refine st_nil ?_;refine aw_seq ?_;refine aw_block ?_;refine aw_loop_g (γ := Nat × Int × (List Int)) (fun g => ([(7, .osl 30 1 0 (Int.toNat a1)), (8, .g (G.int g.2.1))], [(30, .arr 3 1 (List.map cInt g.2.2))])) (fun g => ((Int.toNat a1 : Int) - g.2.1).toNat < g.1 ∧ 0 ≤ g.2.1 ∧ g.2.1 ≤ (Int.toNat a1 : Int) ∧ (0 < g.2.1 ∨ Int.toNat a1 = 0) ∧ List.length g.2.2 = Int.toNat a1 ∧ s1105_l1 a1 g.1 g.2.1 g.2.2 = some R) (fun g => g.1) ⟨rfl, ((((Int.toNat a1 : Int) - ((min (List.length a0) (List.length (List.replicate (Int.toNat a1) (0 : Int))) : Nat) : Int)).toNat) + 1, ((min (List.length a0) (List.length (List.replicate (Int.toNat a1) (0 : Int))) : Nat) : Int), copyL (List.replicate (Int.toNat a1) (0 : Int)) a0), ⟨rfl, rfl, trivial⟩, ⟨rfl, trivial⟩, rfl, ⟨Nat.lt_succ_self _, (by dsimp only; omega), (by dsimp only; rw [List.length_replicate, hl]; omega), (by dsimp only; rw [List.length_replicate, hl]; omega), ((copyL_len _ _).trans List.length_replicate), (by exact hR)⟩, trivial⟩ ?_
   ·rintro ⟨k4, x1, x2⟩ ⟨hk1, iv1_0, iv1_1, iv1_2, ln3, hR⟩;replace hk1 : ((Int.toNat a1 : Int) - x1).toNat < k4 := hk1;replace hR : s1105_l1 a1 k4 x1 x2 = some R := hR;replace iv1_0 : 0 ≤ x1 := iv1_0;replace iv1_1 : x1 ≤ (Int.toNat a1 : Int) := iv1_1;replace iv1_2 : (0 < x1 ∨ Int.toNat a1 = 0) := iv1_2;replace ln3 : List.length x2 = Int.toNat a1 := ln3;obtain ⟨k4, rfl⟩ : ∃ m, k4 = m + 1 := ⟨k4 - 1, by omega⟩;rw [s1105_l1] at hR;(try dsimp only at hR);refine aw_seq ?_;refine aw_seq ?_;refine aw_region [.p, .p, .p, .p] ?_;refine st rfl rfl (eff_moveg rfl rfl) rfl ?_;refine st rfl rfl (eff_moveO rfl rfl) rfl ?_;refine st rfl rfl (eff_lenO0 rfl Tryz.underlying51 rfl) rfl ?_;refine st rfl rfl (eff_lss rfl rfl rfl) rfl ?_;refine st_nil ?_;refine aw_cond _ rfl (fun h1 => ?_) (fun h1 => ?_)
    ·replace h1 : (decide (x1 < (Int.toNat a1 : Int))) = true := h1;replace hR := condT hR h1;(try simp only [Bool.or_eq_true, Bool.and_eq_true, Bool.or_eq_false_iff, Bool.and_eq_false_iff, Bool.not_eq_true', Bool.not_eq_false', decide_eq_true_eq, decide_eq_false_iff_not] at h1);refine aw_skip ?_;refine aw_block ?_
     have htk : (List.take (Int.toNat x1) x2).length = Int.toNat x1 := by rw [List.length_take]; omega
     refine aw_draw [.p, .p, .p, .p, .p, .p, .p, .w, .p, .p] (by kernel_rfl) ?_;refine st rfl rfl (eff_moveg rfl rfl) rfl ?_;refine st rfl rfl (eff_moveO rfl rfl) rfl ?_;refine st rfl rfl (eff_moveg rfl rfl) rfl ?_;refine st rfl rfl (eff_slO (a := Int.toNat x1) (c := Int.toNat a1) rfl Tryz.underlying51 ty3 rfl (bnd_some rfl (by omega)) bnd_none (by omega) (by omega)) rfl ?_;refine st rfl rfl (eff_moveO rfl rfl) rfl ?_;refine st rfl rfl (eff_moveg rfl rfl) rfl ?_;refine st rfl rfl (eff_slO (a := 0) (c := Int.toNat x1) rfl Tryz.underlying51 ty3 rfl bnd_none (bnd_some rfl (by omega)) (by omega) (by omega)) rfl ?_;refine st_w rfl rfl (eff_copyW (f := cInt) (d := x2) (s := List.take (Int.toNat x1) x2) rfl app82 rfl ln3 (by omega) rfl (src_eq rfl (src_oslC (l := x2) rfl ln3 (by simp []) (by omega) (by omega)))) rfl ?_;refine st rfl rfl (eff_add rfl rfl rfl (by unfold I64; (try dsimp only); omega)) rfl ?_;refine st rfl rfl (eff_assigng rfl rfl) rfl ?_;refine st_nil ?_;exact ⟨rfl, (k4, x1 + ((min (List.length (List.take (Int.toNat x1) x2)) ((Int.toNat a1) - (Int.toNat x1)) : Nat) : Int), List.take (Int.toNat x1) x2 ++ List.take (min (List.length (List.take (Int.toNat x1) x2)) ((Int.toNat a1) - (Int.toNat x1))) (List.take (Int.toNat x1) x2) ++ List.drop ((Int.toNat x1) + min (List.length (List.take (Int.toNat x1) x2)) ((Int.toNat a1) - (Int.toNat x1))) x2), ⟨rfl, rfl, trivial⟩, ⟨rfl, trivial⟩, rfl, ⟨(by first | omega | (dsimp only; omega) | (simp at *; omega)), (by first | omega | (dsimp only; omega) | (simp at *; omega)), (by first | omega | (dsimp only; omega) | (simp at *; omega)), (by first | omega | (dsimp only; omega) | (simp at *; omega)), (cpy_len ln3 (by omega)), hR⟩, by simp⟩
    ·replace h1 : (decide (x1 < (Int.toNat a1 : Int))) = false := h1;replace hR := condF hR h1;(try simp only [Bool.or_eq_true, Bool.and_eq_true, Bool.or_eq_false_iff, Bool.and_eq_false_iff, Bool.not_eq_true', Bool.not_eq_false', decide_eq_true_eq, decide_eq_false_iff_not] at h1);refine aw_exit ?_;refine aw_seq ?_;refine aw_region [.p, .p] ?_;refine st rfl rfl (eff_moveO rfl rfl) rfl ?_;refine st rfl rfl (eff_assignO rfl rfl) rfl ?_;refine st_nil ?_;refine aw_ret ?_;obtain rfl := Option.some.inj hR;exact res_c rfl (rv_viewLN ln3 rfl rfl)
end Go.Sim
