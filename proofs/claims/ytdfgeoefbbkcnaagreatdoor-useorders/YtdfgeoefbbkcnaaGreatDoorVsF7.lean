/-
  What is proved: the walk of the states: the reference.
-/
import Derived.Test.YtdfgeoefbbkcnaaGreatDoorVsF6
import Derived.Test.YtdfgeoefbbkcnaaGreatDoorVaA4
set_option linter.unusedSectionVars false
set_option linter.unusedSimpArgs false
set_option linter.unusedVariables false
set_option linter.unnecessarySimpa false
set_option linter.deprecated false
namespace Go.Sim
end Go.Sim

set_option linter.unusedSimpArgs false
set_option linter.unusedVariables false
set_option maxRecDepth 10000
namespace Go.Sim
open Go.Proofs


/-- turnroundref09.before -/
def s127 (a0 : S151) (a1 : S151) : Bool :=
 (bif decide (a0.Moment ≠ a1.Moment) then decide (a0.Moment < a1.Moment) else (bif !decide (a0.Name = a1.Name) then strLt a0.Name a1.Name else strLt a0.Kind a1.Kind || decide (a0.Kind = a1.Kind)))
/-- turnroundref09.covers -/
def s179 (a0 : S104) (a1 : S151) : Bool :=
 (((decide (a0.Kind = (⟨#[119, 101, 97, 116, 104, 101, 114]⟩))) || (decide (a0.Name = a1.Name))) && (decide (a0.fFrom ≤ IntKind.i64.wrap (Int.tdiv a1.Moment 1440)))) && (decide (IntKind.i64.wrap (Int.tdiv a1.Moment 1440) ≤ a0.fTo))
/-- turnroundref09.returned -/
def s128_l1 (a0 : S23) (a1 : S151) : List S104 → Nat → Bool
 | [], k2 => false
 | y3 :: t4, k2 => (bif ((decide (y3.Kind = (⟨#[98, 97, 99, 107]⟩))) && (s179 y3 a1)) && (decide (IntKind.i64.wrap (y3.Told + a0.Notice) ≤ IntKind.i64.wrap (Int.tdiv a1.Moment 1440))) then true else s128_l1 a0 a1 t4 (k2 + 1))
def s128 (a0 : S23) (a1 : S151) (a2 : List S104) : Bool :=
 s128_l1 a0 a1 a2 0
/-- turnroundref09.excused -/
def s129_l1 (a0 : S23) (a1 : S151) : List S104 → Nat → Bool
 | [], k2 => false
 | y3 :: t4, k2 => (bif (s179 y3 a1) && ((decide (y3.Kind = (⟨#[119, 101, 97, 116, 104, 101, 114]⟩))) || ((decide (y3.Kind = (⟨#[99, 97, 110, 99, 101, 108]⟩))) && (s92 a0.Causes y3.Cause))) then true else s129_l1 a0 a1 t4 (k2 + 1))
def s129 (a0 : S23) (a1 : S151) (a2 : List S104) : Bool :=
 s129_l1 a0 a1 a2 0
end Go.Sim

set_option linter.unusedSimpArgs false
set_option linter.unusedVariables false
set_option maxRecDepth 10000
namespace Go.Sim
open Go.Proofs


/-- turnroundref09.Flights -/
def s59_j1 (rec1 : Nat → (List S151) → Option (List S151)) (k3 : Nat) (x6 : List S151) : Option (List S151) :=
 rec1 (k3 + 1) x6
def s59_l2 (rec1 : Nat → (List S151) → Option (List S151)) (x1 : List S151) (k3 : Nat) (y4 : S104) : Nat → Int → Option (List S151)
 | 0, _ => none
 | k8 + 1, x7 => bindO (bif decide (x7 < (List.length x1 : Int)) then ixO x1 x7 else some default) fun y9 => (bif (decide (x7 < (List.length x1 : Int))) && (s127 y9 (S151.mk y4.Name y4.Moment y4.Move)) then s59_l2 rec1 x1 k3 y4 k8 (x7 + 1) else s59_j1 rec1 k3 ((([] ++ (List.take (Int.toNat x7) x1)) ++ [(S151.mk y4.Name y4.Moment y4.Move)]) ++ (List.drop (Int.toNat x7) x1)))
def s59_l1  : List S104 → Nat → (List S151) → Option (List S151)
 | [], k3, x1 => some x1
 | y4 :: t5, k3, x1 => (bif !decide (y4.Kind = (⟨#[102, 108, 121]⟩)) then s59_j1 (fun k_ z0_ => s59_l1  t5 k_ z0_) k3 x1 else s59_l2 (fun k_ z0_ => s59_l1  t5 k_ z0_) x1 k3 y4 ((((List.length x1 : Int) - 0).toNat) + 1) 0)
def s59 (a0 : List S104) : Option (List S151) :=
 s59_l1 a0 0 []
end Go.Sim

namespace Go.Sim
end Go.Sim

set_option linter.unusedSimpArgs false
set_option linter.unusedVariables false
set_option maxRecDepth 10000
namespace Go.Sim
open Go.Proofs


/-- turnroundref09.Status -/
def s61_l2 (x2 : List Int) : List S154 → Nat → (List ByteArray) → Option (List ByteArray)
 | [], k13, x11 => some x11
 | y14 :: t15, k13, x11 => bindO (ixO x2 y14.Slot) fun y16 => bindO (ixO x11 y16) fun y17 => s61_l2 x2 t15 (k13 + 1) (List.set x11 (Int.toNat y16) (⟨#[102, 108, 111, 119, 110]⟩))
def s61_j1 (rec1 : Nat → (List S151) → (List Int) → (List ByteArray) → Option (List ByteArray)) (k5 : Nat) (x18 : List S151) (x19 : List Int) (x20 : List ByteArray) : Option (List ByteArray) :=
 rec1 (k5 + 1) x18 x19 x20
def s61_l1 (a0 : S23) (a2 : List S104) : List S151 → Nat → (List S151) → (List Int) → (List ByteArray) → Option (List ByteArray)
 | [], k5, x1, x2, x3 => bindO (s59 a2) fun r8 => bindO (s120 a0 x1 r8) fun r9 => s61_l2 x2 r9 0 x3
 | y6 :: t7, k5, x1, x2, x3 => (bif (s128 a0 y6 a2) then s61_j1 (fun k_ z0_ z1_ z2_ => s61_l1 a0 a2 t7 k_ z0_ z1_ z2_) k5 x1 x2 (x3 ++ [⟨#[114, 101, 116, 117, 114, 110, 101, 100]⟩]) else (bif (s129 a0 y6 a2) then s61_j1 (fun k_ z0_ z1_ z2_ => s61_l1 a0 a2 t7 k_ z0_ z1_ z2_) k5 (x1 ++ [y6]) (x2 ++ [((k5 : Nat) : Int)]) (x3 ++ [⟨#[101, 120, 99, 117, 115, 101, 100]⟩]) else s61_j1 (fun k_ z0_ z1_ z2_ => s61_l1 a0 a2 t7 k_ z0_ z1_ z2_) k5 (x1 ++ [y6]) (x2 ++ [((k5 : Nat) : Int)]) (x3 ++ [⟨#[109, 105, 115, 115, 101, 100]⟩])))
def s61 (a0 : S23) (a1 : List S151) (a2 : List S104) : Option (List ByteArray) :=
 s61_l1 a0 a2 a1 0 [] [] []
end Go.Sim

set_option linter.unusedSimpArgs false
set_option linter.unusedVariables false
set_option maxRecDepth 10000
namespace Go.Sim
open Go.Proofs


/-- turnroundref01.SameWords -/
def s60_l1 (a1 : List ByteArray) : List ByteArray → Nat → Option Bool
 | [], k2 => some true
 | y3 :: t4, k2 => bindO (ixO a1 ((k2 : Nat) : Int)) fun y5 => (bif !decide (y3 = y5) then some false else s60_l1 a1 t4 (k2 + 1))
def s60 (a0 : List ByteArray) (a1 : List ByteArray) : Option Bool :=
 (bif decide ((List.length a0 : Int) ≠ (List.length a1 : Int)) then some false else s60_l1 a1 a0 0)
theorem c60 {g : List (Nat × List Value)} (a0 : List ByteArray) (a1 : List ByteArray) {R : Bool}   (hR : s60 a0 a1 = some R) : Con (EG g) 60 [G.sl 1 (List.map cStr a0), G.sl 1 (List.map cStr a1)] (G.bool R) := by
 unfold s60 at hR
 refine con_of_aw Tryz.func60 rfl rfl fun w0 M0 => ?_
 refine len_sl (f := cStr) (l := a0) 0 rfl fun hla0 => ?_
 refine len_sl (f := cStr) (l := a1) 1 rfl fun hla1 => ?_
 refine aw_seq ?_
 refine aw_region [.p] ?_
 refine st rfl rfl (eff_assigng rfl rfl) rfl ?_
 refine st_nil ?_
 refine aw_seq ?_
 refine aw_seq ?_
 refine aw_region [.p, .p, .p, .p, .p] ?_
 refine st rfl rfl (eff_moveg rfl rfl) rfl ?_
 refine st rfl rfl (eff_lenM (f := cStr) (l := a0) rfl Tryz.underlying22 rfl) rfl ?_
 refine st rfl rfl (eff_moveg rfl rfl) rfl ?_
 refine st rfl rfl (eff_lenM (f := cStr) (l := a1) rfl Tryz.underlying22 rfl) rfl ?_
 refine st rfl rfl (eff_neq rfl rfl rfl) rfl ?_
 refine st_nil ?_
 refine aw_cond _ rfl (fun h1 => ?_) (fun h1 => ?_)
 ·replace h1 : (decide ((List.length a0 : Int) ≠ (List.length a1 : Int))) = true := h1
  replace hR := condT hR h1
  try simp only [decide_eq_true_eq] at h1
  refine aw_seq ?_
  refine aw_region [.p] ?_
  refine st rfl rfl (eff_assigng rfl rfl) rfl ?_
  refine st_nil ?_
  refine aw_ret ?_
  obtain rfl := Option.some.inj hR
  exact res_c rfl (rv_g rfl)
 ·replace h1 : (decide ((List.length a0 : Int) ≠ (List.length a1 : Int))) = false := h1
  replace hR := condF hR h1
  try simp only [decide_eq_false_iff_not] at h1
  refine aw_skip ?_
  refine aw_seq ?_
  refine aw_seq ?_
  refine aw_region [.p] ?_
  refine st rfl rfl (eff_assigng rfl rfl) rfl ?_
  refine st_nil ?_
  refine aw_block ?_
  refine aw_loop_g (γ := Nat × (List ByteArray)) (fun g => ([(0, .g (G.sl 1 (List.map cStr a0))), (1, .g (G.sl 1 (List.map cStr a1))), (5, .g (G.int ((g.1 : Nat) : Int)))], [])) (fun g => a0.drop g.1 = g.2 ∧ s60_l1 a1 g.2 g.1 = some R) (fun g => List.length g.2) ⟨rfl, (0, a0), ⟨rfl, rfl, rfl, trivial⟩, trivial, rfl, ⟨rfl, hR⟩, trivial⟩ ?_
  ·rintro ⟨k2, t4⟩ ⟨hd, hR⟩
   replace hd : a0.drop k2 = t4 := hd
   replace hR : s60_l1 a1 t4 k2 = some R := hR
   refine aw_seq ?_
   refine aw_seq ?_
   refine aw_region [.p, .p, .p, .p] ?_
   refine st rfl rfl (eff_moveg rfl rfl) rfl ?_
   refine st rfl rfl (eff_moveg rfl rfl) rfl ?_
   refine st rfl rfl (eff_lenM (f := cStr) (l := a0) rfl Tryz.underlying22 rfl) rfl ?_
   refine st rfl rfl (eff_lss rfl rfl rfl) rfl ?_
   refine st_nil ?_
   refine len_sl (f := cStr) (l := a0) 0 rfl fun hlz1 => ?_
   refine aw_cond _ rfl (fun h2 => ?_) (fun h2 => ?_)
   ·replace h2 : (decide (((k2 : Nat) : Int) < (List.length a0 : Int))) = true := h2
    obtain ⟨y3, t4, rfl, hx1, hd⟩ := drop_cons hd (decT h2)
    replace h2 := decT h2
    rw [s60_l1] at hR
    try dsimp only at hR
    refine aw_skip ?_
    refine aw_seq ?_
    refine aw_block ?_
    refine aw_seq ?_
    obtain ⟨y5, by5, hR⟩ := bindO_inv hR
    refine aw_draw [.p, .p, .p, .p, .p, .p, .p, .p, .p] (by kernel_rfl) ?_
    refine st rfl rfl (eff_moveg rfl rfl) rfl ?_
    refine st rfl rfl (eff_moveg rfl rfl) rfl ?_
    refine st rfl rfl (eff_ix (f := cStr) (l := a0) (a := y3) rfl Tryz.underlying22 ty9 rfl rfl (Int.natCast_nonneg _) hx1) rfl ?_
    refine st rfl rfl (eff_load rfl ty9 rfl) rfl ?_
    refine st rfl rfl (eff_moveg rfl rfl) rfl ?_
    refine st rfl rfl (eff_moveg rfl rfl) rfl ?_
    refine st rfl rfl (eff_ix (f := cStr) (l := a1) (a := y5) rfl Tryz.underlying22 ty9 rfl rfl (ixO_nn by5) (ixO_get by5)) rfl ?_
    refine st rfl rfl (eff_load rfl ty9 rfl) rfl ?_
    refine st rfl rfl (eff_sne rfl rfl rfl) rfl ?_
    refine st_nil ?_
    refine aw_cond _ rfl (fun h4 => ?_) (fun h4 => ?_)
    ·replace h4 : (!decide (y3 = y5)) = true := h4
     replace hR := condT hR h4
     try simp only [Bool.or_eq_true, Bool.and_eq_true, Bool.or_eq_false_iff, Bool.and_eq_false_iff, Bool.not_eq_true', Bool.not_eq_false', decide_eq_true_eq, decide_eq_false_iff_not] at h4
     refine aw_seq ?_
     refine aw_region [.p] ?_
     refine st rfl rfl (eff_assigng rfl rfl) rfl ?_
     refine st_nil ?_
     refine aw_ret ?_
     obtain rfl := Option.some.inj hR
     exact res_c rfl (rv_g rfl)
    ·replace h4 : (!decide (y3 = y5)) = false := h4
     replace hR := condF hR h4
     try simp only [Bool.or_eq_true, Bool.and_eq_true, Bool.or_eq_false_iff, Bool.and_eq_false_iff, Bool.not_eq_true', Bool.not_eq_false', decide_eq_true_eq, decide_eq_false_iff_not] at h4
     refine aw_skip ?_
     refine aw_region [.p, .p, .p] ?_
     refine st rfl rfl (eff_moveg rfl rfl) rfl ?_
     refine st rfl rfl (eff_add rfl rfl rfl (by unfold I64; omega)) rfl ?_
     refine st rfl rfl (eff_assigng rfl rfl) rfl ?_
     refine st_nil ?_
     exact ⟨rfl, (k2 + 1, t4), ⟨rfl, rfl, rfl, trivial⟩, trivial, rfl, ⟨hd, hR⟩, by simp⟩
   ·replace h2 : (decide (((k2 : Nat) : Int) < (List.length a0 : Int))) = false := h2
    obtain rfl := drop_nil hd (decF h2)
    rw [s60_l1] at hR
    refine aw_exit ?_
    refine aw_seq ?_
    refine aw_region [.p] ?_
    refine st rfl rfl (eff_assigng rfl rfl) rfl ?_
    refine st_nil ?_
    refine aw_ret ?_
    obtain rfl := Option.some.inj hR
    exact res_c rfl (rv_g rfl)
end Go.Sim

namespace Go.Sim
/-! ## UseStatus: what the walk asks of the law's words -/
theorem s27_len {l : List S104} (h : s27 l = 0) : l.length ≤ 512 := by
  unfold s27 at h
  by_cases h1 : 512 < l.length
  · rw [decide_eq_true (by omega)] at h; cases h
  · omega
theorem s122_ok {a0 : S23} {a1 : List S151} {a2 : List S104} (h : s122 a0 a1 a2 = 0) : s23 a0 = 0 ∧ s25 a1 = 0 ∧ s27 a2 = 0 := by
  unfold s122 at h
  have := s84_all h
  exact ⟨this _ (by simp), this _ (by simp), this _ (by simp)⟩
theorem notes_eq' (l : List S104) : s28 (s22 l) = s27 l := (notes_eq note_eq l).symm
theorem both_eq9 (a0 : S23) (a1 : List S151) (a2 : List S104) : s122 a0 a1 a2 = s35 [s24 (s18 a0), s26 (s20 a1), s28 (s22 a2)] := by
  unfold s122 s35
  rw [s84_s89, rule_eq, slots_eq, notes_eq']
end Go.Sim

set_option linter.unusedSimpArgs false
set_option linter.unusedVariables false
set_option maxRecDepth 10000
namespace Go.Sim
open Go.Proofs


end Go.Sim

