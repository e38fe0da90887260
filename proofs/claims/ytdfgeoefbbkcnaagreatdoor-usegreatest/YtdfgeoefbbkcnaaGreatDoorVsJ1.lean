/-
  What is proved: the states of the slots written out; the order of the records, and one record more.
-/
import Derived.Test.YtdfgeoefbbkcnaaGreatDoorVsF7
import Derived.Test.YtdfgeoefbbkcnaaGreatDoorVsF2
import Derived.Test.YtdfgeoefbbkcnaaGreatDoorVaA9
import Derived.Test.YtdfgeoefbbkcnaaGreatDoorVaA4
set_option linter.unusedSectionVars false
set_option linter.unusedSimpArgs false
set_option linter.unusedVariables false
set_option linter.unnecessarySimpa false
set_option linter.deprecated false
namespace Go.Sim
end Go.Sim

namespace Go.Sim
end Go.Sim

namespace Go.Sim
theorem len115_l2 (rec1 : Nat → List S154 → List (Int × Bool) → Option (List S154)) (n : Nat) (hrec : ∀ k x m r, rec1 k x m = some r → r.length ≤ x.length + n) (a0 : S23) (a1 a2 : List S151) (x3 : List S154) (x5 : List (Int × Bool)) (k6 : Nat) (y7 : Int) : ∀ (l : List Int) (k : Nat) (r : List S154), s115_l2 rec1 a0 a1 a2 x3 x5 k6 y7 l k = some r → r.length ≤ x3.length + (n + 1)
  | [], k, r, h => by
    rw [s115_l2] at h
    have := hrec _ _ _ _ h
    omega
  | y :: l, k, r, h => by
    rw [s115_l2] at h
    obtain ⟨z1, _, h⟩ := bindO_inv h
    obtain ⟨z2, _, h⟩ := bindO_inv h
    cases hc : ((!(mgetD x5 y false)) && (s142 a0 z1 z2)) with
    | true =>
      have := hrec _ _ _ _ (condT h hc)
      simp at this; omega
    | false => exact len115_l2 rec1 n hrec a0 a1 a2 x3 x5 k6 y7 l _ r (condF h hc)
theorem len115_l1 (a0 : S23) (a1 a2 : List S151) (r1 : List Int) : ∀ (l : List Int) (k : Nat) (x : List S154) (m : List (Int × Bool)) (r : List S154), s115_l1 a0 a1 a2 r1 l k x m = some r → r.length ≤ x.length + l.length
  | [], k, x, m, r, h => by rw [s115_l1] at h; cases h; simp
  | y :: l, k, x, m, r, h => by
    rw [s115_l1] at h
    exact len115_l2 _ l.length (fun k x m r h => len115_l1 a0 a1 a2 r1 l k x m r h) a0 a1 a2 x m k y r1 0 r h
theorem len115 {a0 : S23} {a1 a2 : List S151} {r : List S154} (h : s115 a0 a1 a2 = some r) : r.length ≤ a1.length := by
  unfold s115 at h
  obtain ⟨r1, h1, h⟩ := bindO_inv h
  obtain ⟨r2, h2, h⟩ := bindO_inv h
  have := len115_l1 _ _ _ _ _ _ _ _ _ h
  rw [len168 h2] at this
  simpa using this
end Go.Sim

set_option linter.unusedSimpArgs false
set_option linter.unusedVariables false
set_option maxRecDepth 10000
namespace Go.Sim
open Go.Proofs


/-- use.Matches -/
def s44 (a0 : S23) (a1 : List S151) (a2 : List S151) : Option ((List S154) × Int) :=
 (bif decide ((s113 a0 a1 a2) ≠ 0) then some ([], (s113 a0 a1 a2)) else bindO (s115 a0 a1 a2) fun r1 => bindO (s114 r1) fun r2 => some (r2, 0))
theorem c44 (a0 : S23) (a1 : List S151) (a2 : List S151) {R : (List S154) × Int}  (hb : ¬ s113 a0 a1 a2 ≠ 0 → a1.length ≤ 12 ∧ a2.length ≤ 12) (hR : s44 a0 a1 a2 = some R) : Con (EG glT) 44 [G.agg [G.int a0.Before, G.int a0.After, G.int a0.Notice, G.int a0.Share, G.sl 1 (List.map cStr a0.Causes), G.int a0.Off, G.int a0.Run], G.sl 3 (List.map S151.c a1), G.sl 3 (List.map S151.c a2)] (G.tup [G.sl 2 (List.map S154.c R.1), G.int R.2]) := by
 unfold s44 at hR
 refine con_of_aw Tryz.func44 rfl rfl fun w0 M0 => ?_
 refine len_sl (f := S151.c) (l := a1) 1 rfl fun hla1 => ?_
 refine len_sl (f := S151.c) (l := a2) 2 rfl fun hla2 => ?_
 refine aw_seq ?_
 refine aw_region [.p, .p, .p] ?_
 refine st rfl rfl (eff_box rfl rfl) rfl ?_
 refine st rfl rfl (eff_assigng rfl rfl) rfl ?_
 refine st rfl rfl (eff_assigng rfl rfl) rfl ?_
 refine st_nil ?_
 refine aw_seq ?_
 refine aw_seq ?_
 refine aw_region [.p, .p, .p, .p, .p] ?_
 refine st rfl rfl (eff_loadA rfl ty24 rfl rfl rfl) rfl ?_
 refine st rfl rfl (eff_moveg rfl rfl) rfl ?_
 refine st rfl rfl (eff_moveg rfl rfl) rfl ?_
 refine st rfl rfl (eff_call rfl K113 rfl (c113 a0 a1 a2) (ag_cons rfl (ag_cons rfl (ag_cons rfl ag_nil)))) rfl ?_
 refine st rfl rfl (eff_assigng rfl rfl) rfl ?_
 refine st_nil ?_
 refine aw_seq ?_
 refine aw_region [.p, .p] ?_
 refine st rfl rfl (eff_moveg rfl rfl) rfl ?_
 refine st rfl rfl (eff_neq rfl rfl rfl) rfl ?_
 refine st_nil ?_
 refine aw_cond _ rfl (fun h1 => ?_) (fun h1 => ?_)
 ·replace h1 : (decide ((s113 a0 a1 a2) ≠ 0)) = true := h1
  replace hR := condT hR h1
  try simp only [decide_eq_true_eq] at h1
  refine aw_seq ?_
  refine aw_region [.p, .p, .p] ?_
  refine st rfl rfl (eff_moveg rfl rfl) rfl ?_
  refine st rfl rfl (eff_assigng rfl rfl) rfl ?_
  refine st rfl rfl (eff_assigng rfl rfl) rfl ?_
  refine st_nil ?_
  refine aw_ret ?_
  obtain rfl := Option.some.inj hR
  exact resN rfl ⟨rv_nilG rfl (nil_sl _), rv_g rfl, trivial⟩ (by simp)
 ·replace h1 : (decide ((s113 a0 a1 a2) ≠ 0)) = false := h1
  replace hR := condF hR h1
  try simp only [decide_eq_false_iff_not] at h1
  obtain ⟨hb1, hb2⟩ := hb h1
  refine aw_skip ?_
  refine aw_seq ?_
  obtain ⟨r1, br1, hR⟩ := bindO_inv hR
  obtain ⟨r2, br2, hR⟩ := bindO_inv hR
  have hlm := len115 br1
  refine aw_region [.p, .p, .p, .p, .p, .p, .p] ?_
  refine st rfl rfl (eff_loadA rfl ty24 rfl rfl rfl) rfl ?_
  refine st rfl rfl (eff_moveg rfl rfl) rfl ?_
  refine st rfl rfl (eff_moveg rfl rfl) rfl ?_
  refine st rfl rfl (eff_call rfl K115 rfl (c115 a0 a1 a2 (by first | assumption | omega | (simp [copyL_len]; omega)) (by first | assumption | omega | (simp [copyL_len]; omega)) br1) (ag_cons rfl (ag_cons rfl (ag_cons rfl ag_nil)))) rfl ?_
  refine st rfl rfl (eff_call rfl K114 rfl (c114 r1 (by first | assumption | omega | (simp [copyL_len]; omega)) br2) (ag_cons rfl ag_nil)) rfl ?_
  refine st rfl rfl (eff_assigng rfl rfl) rfl ?_
  refine st rfl rfl (eff_assigng rfl rfl) rfl ?_
  refine st_nil ?_
  refine aw_ret ?_
  obtain rfl := Option.some.inj hR
  exact resN rfl ⟨rv_g rfl, rv_g rfl, trivial⟩ (by simp)

/-- use.Missed -/
def s45 (a0 : S23) (a1 : List S151) (a2 : List S151) : Option ((List Int) × Int) :=
 (bif decide ((s113 a0 a1 a2) ≠ 0) then some ([], (s113 a0 a1 a2)) else bindO (s115 a0 a1 a2) fun r1 => some ((s116 (List.length a1 : Int) (s117 r1 s118)), 0))
theorem c45 {g : List (Nat × List Value)} (a0 : S23) (a1 : List S151) (a2 : List S151) {R : (List Int) × Int}  (hb : ¬ s113 a0 a1 a2 ≠ 0 → a1.length ≤ 12 ∧ a2.length ≤ 12) (hR : s45 a0 a1 a2 = some R) : Con (EG g) 45 [G.agg [G.int a0.Before, G.int a0.After, G.int a0.Notice, G.int a0.Share, G.sl 1 (List.map cStr a0.Causes), G.int a0.Off, G.int a0.Run], G.sl 3 (List.map S151.c a1), G.sl 3 (List.map S151.c a2)] (G.tup [G.sl 1 (List.map cInt R.1), G.int R.2]) := by
 unfold s45 at hR
 refine con_of_aw Tryz.func45 rfl rfl fun w0 M0 => ?_
 refine len_sl (f := S151.c) (l := a1) 1 rfl fun hla1 => ?_
 refine len_sl (f := S151.c) (l := a2) 2 rfl fun hla2 => ?_
 refine aw_seq ?_
 refine aw_region [.p, .p, .p] ?_
 refine st rfl rfl (eff_box rfl rfl) rfl ?_
 refine st rfl rfl (eff_assigng rfl rfl) rfl ?_
 refine st rfl rfl (eff_assigng rfl rfl) rfl ?_
 refine st_nil ?_
 refine aw_seq ?_
 refine aw_seq ?_
 refine aw_region [.p, .p, .p, .p, .p] ?_
 refine st rfl rfl (eff_loadA rfl ty24 rfl rfl rfl) rfl ?_
 refine st rfl rfl (eff_moveg rfl rfl) rfl ?_
 refine st rfl rfl (eff_moveg rfl rfl) rfl ?_
 refine st rfl rfl (eff_call rfl K113 rfl (c113 a0 a1 a2) (ag_cons rfl (ag_cons rfl (ag_cons rfl ag_nil)))) rfl ?_
 refine st rfl rfl (eff_assigng rfl rfl) rfl ?_
 refine st_nil ?_
 refine aw_seq ?_
 refine aw_region [.p, .p] ?_
 refine st rfl rfl (eff_moveg rfl rfl) rfl ?_
 refine st rfl rfl (eff_neq rfl rfl rfl) rfl ?_
 refine st_nil ?_
 refine aw_cond _ rfl (fun h1 => ?_) (fun h1 => ?_)
 ·replace h1 : (decide ((s113 a0 a1 a2) ≠ 0)) = true := h1
  replace hR := condT hR h1
  try simp only [decide_eq_true_eq] at h1
  refine aw_seq ?_
  refine aw_region [.p, .p, .p] ?_
  refine st rfl rfl (eff_moveg rfl rfl) rfl ?_
  refine st rfl rfl (eff_assigng rfl rfl) rfl ?_
  refine st rfl rfl (eff_assigng rfl rfl) rfl ?_
  refine st_nil ?_
  refine aw_ret ?_
  obtain rfl := Option.some.inj hR
  exact resN rfl ⟨rv_nilG rfl (nil_sl _), rv_g rfl, trivial⟩ (by simp)
 ·replace h1 : (decide ((s113 a0 a1 a2) ≠ 0)) = false := h1
  replace hR := condF hR h1
  try simp only [decide_eq_false_iff_not] at h1
  obtain ⟨hb1, hb2⟩ := hb h1
  refine aw_skip ?_
  refine aw_seq ?_
  obtain ⟨r1, br1, hR⟩ := bindO_inv hR
  have hlm := len115 br1
  refine aw_region [.p, .p, .p, .p, .p, .p, .p, .p, .p, .p] ?_
  refine st rfl rfl (eff_moveg rfl rfl) rfl ?_
  refine st rfl rfl (eff_lenM (f := S151.c) (l := a1) rfl Tryz.underlying25 rfl) rfl ?_
  refine st rfl rfl (eff_loadA rfl ty24 rfl rfl rfl) rfl ?_
  refine st rfl rfl (eff_moveg rfl rfl) rfl ?_
  refine st rfl rfl (eff_moveg rfl rfl) rfl ?_
  refine st rfl rfl (eff_call rfl K115 rfl (c115 a0 a1 a2 (by first | assumption | omega | (simp [copyL_len]; omega)) (by first | assumption | omega | (simp [copyL_len]; omega)) br1) (ag_cons rfl (ag_cons rfl (ag_cons rfl ag_nil)))) rfl ?_
  refine st rfl rfl (eff_call rfl K117 rfl (c117 r1 s118 fnis_lit K118 (fun x0 => c118 x0) (by first | assumption | omega | (simp [copyL_len]; omega))) (ag_cons rfl (ag_cons rfl ag_nil))) rfl ?_
  refine st rfl rfl (eff_call rfl K116 rfl (c116 (List.length a1 : Int) (s117 r1 s118) (by first | assumption | omega | (simp [copyL_len]; omega))) (ag_cons rfl (ag_cons rfl ag_nil))) rfl ?_
  refine st rfl rfl (eff_assigng rfl rfl) rfl ?_
  refine st rfl rfl (eff_assigng rfl rfl) rfl ?_
  refine st_nil ?_
  refine aw_ret ?_
  obtain rfl := Option.some.inj hR
  exact resN rfl ⟨rv_g rfl, rv_g rfl, trivial⟩ (by simp)

/-- use.Extra -/
def s46 (a0 : S23) (a1 : List S151) (a2 : List S151) : Option ((List Int) × Int) :=
 (bif decide ((s113 a0 a1 a2) ≠ 0) then some ([], (s113 a0 a1 a2)) else bindO (s115 a0 a1 a2) fun r1 => some ((s116 (List.length a2 : Int) (s117 r1 s119)), 0))
theorem c46 {g : List (Nat × List Value)} (a0 : S23) (a1 : List S151) (a2 : List S151) {R : (List Int) × Int}  (hb : ¬ s113 a0 a1 a2 ≠ 0 → a1.length ≤ 12 ∧ a2.length ≤ 12) (hR : s46 a0 a1 a2 = some R) : Con (EG g) 46 [G.agg [G.int a0.Before, G.int a0.After, G.int a0.Notice, G.int a0.Share, G.sl 1 (List.map cStr a0.Causes), G.int a0.Off, G.int a0.Run], G.sl 3 (List.map S151.c a1), G.sl 3 (List.map S151.c a2)] (G.tup [G.sl 1 (List.map cInt R.1), G.int R.2]) := by
 unfold s46 at hR
 refine con_of_aw Tryz.func46 rfl rfl fun w0 M0 => ?_
 refine len_sl (f := S151.c) (l := a1) 1 rfl fun hla1 => ?_
 refine len_sl (f := S151.c) (l := a2) 2 rfl fun hla2 => ?_
 refine aw_seq ?_
 refine aw_region [.p, .p, .p] ?_
 refine st rfl rfl (eff_box rfl rfl) rfl ?_
 refine st rfl rfl (eff_assigng rfl rfl) rfl ?_
 refine st rfl rfl (eff_assigng rfl rfl) rfl ?_
 refine st_nil ?_
 refine aw_seq ?_
 refine aw_seq ?_
 refine aw_region [.p, .p, .p, .p, .p] ?_
 refine st rfl rfl (eff_loadA rfl ty24 rfl rfl rfl) rfl ?_
 refine st rfl rfl (eff_moveg rfl rfl) rfl ?_
 refine st rfl rfl (eff_moveg rfl rfl) rfl ?_
 refine st rfl rfl (eff_call rfl K113 rfl (c113 a0 a1 a2) (ag_cons rfl (ag_cons rfl (ag_cons rfl ag_nil)))) rfl ?_
 refine st rfl rfl (eff_assigng rfl rfl) rfl ?_
 refine st_nil ?_
 refine aw_seq ?_
 refine aw_region [.p, .p] ?_
 refine st rfl rfl (eff_moveg rfl rfl) rfl ?_
 refine st rfl rfl (eff_neq rfl rfl rfl) rfl ?_
 refine st_nil ?_
 refine aw_cond _ rfl (fun h1 => ?_) (fun h1 => ?_)
 ·replace h1 : (decide ((s113 a0 a1 a2) ≠ 0)) = true := h1
  replace hR := condT hR h1
  try simp only [decide_eq_true_eq] at h1
  refine aw_seq ?_
  refine aw_region [.p, .p, .p] ?_
  refine st rfl rfl (eff_moveg rfl rfl) rfl ?_
  refine st rfl rfl (eff_assigng rfl rfl) rfl ?_
  refine st rfl rfl (eff_assigng rfl rfl) rfl ?_
  refine st_nil ?_
  refine aw_ret ?_
  obtain rfl := Option.some.inj hR
  exact resN rfl ⟨rv_nilG rfl (nil_sl _), rv_g rfl, trivial⟩ (by simp)
 ·replace h1 : (decide ((s113 a0 a1 a2) ≠ 0)) = false := h1
  replace hR := condF hR h1
  try simp only [decide_eq_false_iff_not] at h1
  obtain ⟨hb1, hb2⟩ := hb h1
  refine aw_skip ?_
  refine aw_seq ?_
  obtain ⟨r1, br1, hR⟩ := bindO_inv hR
  have hlm := len115 br1
  refine aw_region [.p, .p, .p, .p, .p, .p, .p, .p, .p, .p] ?_
  refine st rfl rfl (eff_moveg rfl rfl) rfl ?_
  refine st rfl rfl (eff_lenM (f := S151.c) (l := a2) rfl Tryz.underlying25 rfl) rfl ?_
  refine st rfl rfl (eff_loadA rfl ty24 rfl rfl rfl) rfl ?_
  refine st rfl rfl (eff_moveg rfl rfl) rfl ?_
  refine st rfl rfl (eff_moveg rfl rfl) rfl ?_
  refine st rfl rfl (eff_call rfl K115 rfl (c115 a0 a1 a2 (by first | assumption | omega | (simp [copyL_len]; omega)) (by first | assumption | omega | (simp [copyL_len]; omega)) br1) (ag_cons rfl (ag_cons rfl (ag_cons rfl ag_nil)))) rfl ?_
  refine st rfl rfl (eff_call rfl K117 rfl (c117 r1 s119 fnis_lit K119 (fun x0 => c119 x0) (by first | assumption | omega | (simp [copyL_len]; omega))) (ag_cons rfl (ag_cons rfl ag_nil))) rfl ?_
  refine st rfl rfl (eff_call rfl K116 rfl (c116 (List.length a2 : Int) (s117 r1 s119) (by first | assumption | omega | (simp [copyL_len]; omega))) (ag_cons rfl (ag_cons rfl ag_nil))) rfl ?_
  refine st rfl rfl (eff_assigng rfl rfl) rfl ?_
  refine st rfl rfl (eff_assigng rfl rfl) rfl ?_
  refine st_nil ?_
  refine aw_ret ?_
  obtain rfl := Option.some.inj hR
  exact resN rfl ⟨rv_g rfl, rv_g rfl, trivial⟩ (by simp)

/-- use.Misused -/
def s47_j1 (rec1 : Nat → Int → Option (Bool × Int)) (a0 : S23) (k4 : Nat) (x9 : Int) : Option (Bool × Int) :=
 (bif decide (x9 = a0.Run) then some (true, 0) else rec1 (k4 + 1) x9)
def s47_l1 (a0 : S23) (a1 : List S151) (a2 : List S151) : List S154 → Nat → Int → Option (Bool × Int)
 | [], k4, x2 => some (false, 0)
 | y5 :: t6, k4, x2 => bindO (ixO a2 y5.Record) fun y7 => bindO (ixO a1 y5.Slot) fun y8 => (bif decide (a0.Off < max (IntKind.i64.wrap (y7.Moment - y8.Moment)) (IntKind.i64.wrap (0 - (IntKind.i64.wrap (y7.Moment - y8.Moment))))) then s47_j1 (fun k_ z0_ => s47_l1 a0 a1 a2 t6 k_ z0_) a0 k4 (IntKind.i64.wrap (x2 + 1)) else s47_j1 (fun k_ z0_ => s47_l1 a0 a1 a2 t6 k_ z0_) a0 k4 0)
def s47 (a0 : S23) (a1 : List S151) (a2 : List S151) : Option (Bool × Int) :=
 (bif decide ((s113 a0 a1 a2) ≠ 0) then some (false, (s113 a0 a1 a2)) else bindO (s115 a0 a1 a2) fun r1 => s47_l1 a0 a1 a2 r1 0 0)
end Go.Sim

namespace Go.Sim
/-! ## UseMatches: what the walk asks of the law's words -/
theorem both_eq (a0 : S23) (a1 a2 : List S151) : s113 a0 a1 a2 = s48 a0 a1 a2 := by
  unfold s113 s48 s35
  rw [s84_s89, rule_eq, slots_eq, slots_eq]
theorem s113_ok {a0 : S23} {a1 a2 : List S151} (h : s113 a0 a1 a2 = 0) : s23 a0 = 0 ∧ s25 a1 = 0 ∧ s25 a2 = 0 := by
  unfold s113 at h
  have := s84_all h
  exact ⟨this _ (by simp), this _ (by simp), this _ (by simp)⟩
theorem len114 {a r : List S154} (h : s114 a = some r) : r.length = a.length := by
  unfold s114 at h
  obtain ⟨y, h1, h⟩ := bindO_inv h
  cases h
  rw [len165 h1, copyL_len, List.length_replicate]
end Go.Sim

set_option linter.unusedSimpArgs false
set_option linter.unusedVariables false
set_option maxRecDepth 10000
namespace Go.Sim
open Go.Proofs


/-- turnroundref09.Matches -/
def s52_j1 (rec2 : Nat → (List S154) → Option (List S154)) (k9 : Nat) (x12 : List S154) : Option (List S154) :=
 rec2 (k9 + 1) x12
def s52_l2 (rec1 : Nat → (List S154) → Option (List S154)) (k4 : Nat) : List S154 → Nat → (List S154) → Option (List S154)
 | [], k9, x7 => rec1 (k4 + 1) x7
 | y10 :: t11, k9, x7 => (bif decide (y10.Slot = ((k4 : Nat) : Int)) then s52_j1 (fun k_ z0_ => s52_l2 rec1 k4 t11 k_ z0_) k9 (x7 ++ [y10]) else s52_j1 (fun k_ z0_ => s52_l2 rec1 k4 t11 k_ z0_) k9 x7)
def s52_l1 (r1 : List S154) : List S151 → Nat → (List S154) → Option (List S154)
 | [], k4, x2 => some x2
 | y5 :: t6, k4, x2 => s52_l2 (fun k_ z0_ => s52_l1 r1 t6 k_ z0_) k4 r1 0 x2
def s52 (a0 : S23) (a1 : List S151) (a2 : List S151) : Option (List S154) :=
 bindO (s120 a0 a1 a2) fun r1 => s52_l1 r1 a1 0 []
/-- turnroundref09.Missed -/
def s53_j1 (rec1 : Nat → (List Int) → Option (List Int)) (k4 : Nat) (x7 : List Int) : Option (List Int) :=
 rec1 (k4 + 1) x7
def s53_l2 (rec1 : Nat → (List Int) → Option (List Int)) (x2 : List Int) (k4 : Nat) : List S154 → Nat → Bool → Option (List Int)
 | [], k10, x8 => (bif !x8 then s53_j1 rec1 k4 (x2 ++ [((k4 : Nat) : Int)]) else s53_j1 rec1 k4 x2)
 | y11 :: t12, k10, x8 => s53_l2 rec1 x2 k4 t12 (k10 + 1) (x8 || (decide (y11.Slot = ((k4 : Nat) : Int))))
def s53_l1 (r1 : List S154) : List S151 → Nat → (List Int) → Option (List Int)
 | [], k4, x2 => some x2
 | y5 :: t6, k4, x2 => s53_l2 (fun k_ z0_ => s53_l1 r1 t6 k_ z0_) x2 k4 r1 0 false
def s53 (a0 : S23) (a1 : List S151) (a2 : List S151) : Option (List Int) :=
 bindO (s120 a0 a1 a2) fun r1 => s53_l1 r1 a1 0 []
/-- turnroundref09.Extra -/
def s54_j1 (rec1 : Nat → (List Int) → Option (List Int)) (k4 : Nat) (x7 : List Int) : Option (List Int) :=
 rec1 (k4 + 1) x7
def s54_l2 (rec1 : Nat → (List Int) → Option (List Int)) (x2 : List Int) (k4 : Nat) : List S154 → Nat → Bool → Option (List Int)
 | [], k10, x8 => (bif !x8 then s54_j1 rec1 k4 (x2 ++ [((k4 : Nat) : Int)]) else s54_j1 rec1 k4 x2)
 | y11 :: t12, k10, x8 => s54_l2 rec1 x2 k4 t12 (k10 + 1) (x8 || (decide (y11.Record = ((k4 : Nat) : Int))))
def s54_l1 (r1 : List S154) : List S151 → Nat → (List Int) → Option (List Int)
 | [], k4, x2 => some x2
 | y5 :: t6, k4, x2 => s54_l2 (fun k_ z0_ => s54_l1 r1 t6 k_ z0_) x2 k4 r1 0 false
def s54 (a0 : S23) (a1 : List S151) (a2 : List S151) : Option (List Int) :=
 bindO (s120 a0 a1 a2) fun r1 => s54_l1 r1 a2 0 []
/-- turnroundref09.Misused -/
def s55_j1 (rec1 : Nat → Int → Option Bool) (a0 : S23) (k4 : Nat) (x9 : Int) : Option Bool :=
 (bif decide (a0.Run ≤ x9) then some true else rec1 (k4 + 1) x9)
def s55_l1 (a0 : S23) (a1 : List S151) (a2 : List S151) : List S154 → Nat → Int → Option Bool
 | [], k4, x2 => some false
 | y5 :: t6, k4, x2 => bindO (ixO a2 y5.Record) fun y7 => bindO (ixO a1 y5.Slot) fun y8 => (bif decide (a0.Off < max (IntKind.i64.wrap (y7.Moment - y8.Moment)) (IntKind.i64.wrap (0 - (IntKind.i64.wrap (y7.Moment - y8.Moment))))) then s55_j1 (fun k_ z0_ => s55_l1 a0 a1 a2 t6 k_ z0_) a0 k4 (IntKind.i64.wrap (x2 + 1)) else s55_j1 (fun k_ z0_ => s55_l1 a0 a1 a2 t6 k_ z0_) a0 k4 0)
def s55 (a0 : S23) (a1 : List S151) (a2 : List S151) : Option Bool :=
 bindO (s120 a0 a1 a2) fun r1 => s55_l1 a0 a1 a2 r1 0 0
end Go.Sim

set_option linter.unusedSimpArgs false
set_option linter.unusedVariables false
set_option maxRecDepth 10000
namespace Go.Sim
open Go.Proofs


/-- turnroundlaw09.UseMatches -/
noncomputable def s8 (a0 : S23) (a1 : List S151) (a2 : List S151) : Option Bool :=
 (bif (((!s16) || (!(s17 (s18 a0)))) || (!(s19 (s20 a1) 8))) || (!(s19 (s20 a2) 8)) then some s16 else bindO (s44 a0 a1 a2) fun r1 => bindO (s45 a0 a1 a2) fun r2 => bindO (s46 a0 a1 a2) fun r3 => bindO (s47 a0 a1 a2) fun r4 => (bif decide ((s48 a0 a1 a2) ≠ 0) then bindO (bif (decide ((List.length r1.1 : Int) = 0)) && (decide (r1.2 = (s48 a0 a1 a2))) then s49 r2.1 r2.2 (s48 a0 a1 a2) [] else some default) fun r5 => bindO (bif ((decide ((List.length r1.1 : Int) = 0)) && (decide (r1.2 = (s48 a0 a1 a2)))) && r5 then s49 r3.1 r3.2 (s48 a0 a1 a2) [] else some default) fun r6 => some ((((((decide ((List.length r1.1 : Int) = 0)) && (decide (r1.2 = (s48 a0 a1 a2)))) && r5) && r6) && (!r4.1)) && (decide (r4.2 = (s48 a0 a1 a2)))) else bindO (bif decide (r1.2 = 0) then s52 (s18 a0) (s20 a1) (s20 a2) else some default) fun r7 => bindO (bif decide (r1.2 = 0) then s50 (s51 r1.1) r7 else some default) fun r8 => bindO (bif (decide (r1.2 = 0)) && r8 then s53 (s18 a0) (s20 a1) (s20 a2) else some default) fun r9 => bindO (bif (decide (r1.2 = 0)) && r8 then s49 r2.1 r2.2 0 r9 else some default) fun r10 => bindO (bif ((decide (r1.2 = 0)) && r8) && r10 then s54 (s18 a0) (s20 a1) (s20 a2) else some default) fun r11 => bindO (bif ((decide (r1.2 = 0)) && r8) && r10 then s49 r3.1 r3.2 0 r11 else some default) fun r12 => bindO (bif ((((decide (r1.2 = 0)) && r8) && r10) && r12) && (decide (r4.2 = 0)) then s55 (s18 a0) (s20 a1) (s20 a2) else some default) fun r13 => some ((((((decide (r1.2 = 0)) && r8) && r10) && r12) && (decide (r4.2 = 0))) && (r4.1 == r13))))
end Go.Sim

namespace Go.Sim
/-! ## UseMatches: the law -/
theorem strict_unique : ∀ {a b : List S154}, a.Pairwise (fun x y => x.Slot < y.Slot) → b.Pairwise (fun x y => x.Slot < y.Slot) → (∀ x, x ∈ a ↔ x ∈ b) → a = b
  | [], [], _, _, _ => rfl
  | [], y :: b, _, _, h => by have := (h y).2 List.mem_cons_self; cases this
  | x :: a, [], _, _, h => by have := (h x).1 List.mem_cons_self; cases this
  | x :: a, y :: b, ha, hb, h => by
    obtain ⟨ha1, ha2⟩ := List.pairwise_cons.1 ha
    obtain ⟨hb1, hb2⟩ := List.pairwise_cons.1 hb
    have e : x = y := by
      rcases List.mem_cons.1 ((h x).1 List.mem_cons_self) with e | hx
      · exact e
      · rcases List.mem_cons.1 ((h y).2 List.mem_cons_self) with e | hy
        · exact e.symm
        · have := hb1 x hx
          have := ha1 y hy
          omega
    subst e
    congr 1
    refine strict_unique ha2 hb2 fun z => ⟨fun hz => ?_, fun hz => ?_⟩
    · rcases List.mem_cons.1 ((h z).1 (List.mem_cons_of_mem _ hz)) with e | h'
      · have := ha1 z hz; subst e; omega
      · exact h'
    · rcases List.mem_cons.1 ((h z).2 (List.mem_cons_of_mem _ hz)) with e | h'
      · have := hb1 z hz; subst e; omega
      · exact h'

/-- the slots in turn -/
def buck (M : List S154) : Nat → Nat → List S154
  | 0, _ => []
  | n + 1, k => M.filter (fun e => decide (e.Slot = (k : Int))) ++ buck M n (k + 1)
theorem mem_buck {M : List S154} {e : S154} : ∀ {n k : Nat}, e ∈ buck M n k ↔ e ∈ M ∧ (k : Int) ≤ e.Slot ∧ e.Slot < ((k + n : Nat) : Int)
  | 0, k => by simp only [buck, List.not_mem_nil, false_iff]; omega
  | n + 1, k => by
    rw [buck, List.mem_append, List.mem_filter, mem_buck (n := n) (k := k + 1), decide_eq_true_eq]
    constructor
    · rintro (⟨h1, h2⟩ | ⟨h1, h2, h3⟩)
      · exact ⟨h1, by omega, by omega⟩
      · exact ⟨h1, by omega, by omega⟩
    · rintro ⟨h1, h2, h3⟩
      by_cases h : e.Slot = (k : Int)
      · exact .inl ⟨h1, h⟩
      · exact .inr ⟨h1, by omega, by omega⟩
theorem buck_sorted {M : List S154} (hM : (M.map S154.Slot).Nodup) : ∀ (n k : Nat), (buck M n k).Pairwise (fun x y => x.Slot < y.Slot)
  | 0, k => List.Pairwise.nil
  | n + 1, k => by
    refine List.pairwise_append.2 ⟨?_, buck_sorted hM n (k + 1), fun a ha b hb => ?_⟩
    · have h1 : M.Pairwise (fun x y => x.Slot ≠ y.Slot) := List.pairwise_map.1 hM
      refine (h1.filter _).imp_of_mem fun {a b} ha hb hne => ?_
      have ha := (List.mem_filter.1 ha).2
      have hb := (List.mem_filter.1 hb).2
      simp only [decide_eq_true_eq] at ha hb
      omega
    · have ha := (List.mem_filter.1 ha).2
      simp only [decide_eq_true_eq] at ha
      have := (mem_buck.1 hb).2.1
      omega
theorem sort_ok {M : List S154} {n : Nat} (hM : (M.map S154.Slot).Nodup) (hs : ∀ e ∈ M, e.Slot ∈ idxs n) : s114 M = some (buck M n 0) := by
  have h1 : copyL (List.replicate (List.length M) (S154.mk 0 0)) M = M := by
    unfold copyL; simp
  unfold s114
  rw [h1, s165_ok (lt := fun a b => decide (a.Slot < b.Slot)) (fun y _ x _ => ⟨_, rfl, by rw [s166, s167_lt]⟩)]
  simp only [bindO]
  congr 1
  refine strict_unique ?_ (buck_sorted hM n 0) fun x => ?_
  · refine isort_sorted (Rel := fun x y : S154 => x.Slot < y.Slot) (fun a b c h k => by omega) ?_
    refine (List.pairwise_map.1 hM).imp fun {a b} hne => ?_
    simp only [decide_eq_true_eq, decide_eq_false_iff_not]
    constructor <;> intro h <;> omega
  · rw [(isort_perm _ _).mem_iff, mem_buck]
    constructor
    · intro h
      have := mem_idxs.1 (hs x h)
      exact ⟨h, by omega, by omega⟩
    · exact fun h => h.1

/-- the unanswered -/
theorem s117_eq (M : List S154) (f : S154 → Int) : s117 M f = M.map f := by
  have key : ∀ (l : List S154) (k : Nat) (x : List Int), s117_l1 f l k x = x ++ l.map f := by
    intro l
    induction l with
    | nil => intro k x; simp [s117_l1]
    | cons y l ih => intro k x; rw [s117_l1, ih]; simp
  unfold s117; rw [key]; rfl
theorem s144_eq (l : List Int) (j : Int) : s144 l j = decide (j ∈ l) := by
  have key : ∀ (l : List Int) (k : Nat), decide (0 ≤ s190_l1 j l k) = decide (j ∈ l) := by
    intro l
    induction l with
    | nil => intro k; simp [s190_l1]
    | cons y l ih =>
      intro k
      rw [s190_l1]
      by_cases h : j = y
      · subst h; simp
      · rw [decide_eq_false h, cond_false, ih]; simp [h]
  unfold s144 s190; exact key l 0
end Go.Sim

namespace Go.Sim
/-! ## the matching that takes the first free record, in plain words -/
/-- slots in turn, records in order, what is taken -/
def gm (P : Int → Int → Bool) (ov : List Int) : List Int → List Int → List S154
  | [], _ => []
  | i :: r, T => match ov.find? (fun j => !decide (j ∈ T) && P i j) with
    | some j => ⟨i, j⟩ :: gm P ov r (j :: T)
    | none => gm P ov r T

section
variable {P : Int → Int → Bool} {ov : List Int}
/-- what is taken behind a part -/
def gmT (P : Int → Int → Bool) (ov : List Int) : List Int → List Int → List Int
  | [], T => T
  | i :: r, T => match ov.find? (fun j => !decide (j ∈ T) && P i j) with
    | some j => gmT P ov r (j :: T)
    | none => gmT P ov r T
theorem gm_app : ∀ (a b : List Int) (T : List Int), gm P ov (a ++ b) T = gm P ov a T ++ gm P ov b (gmT P ov a T)
  | [], _, _ => rfl
  | i :: a, b, T => by
    rw [List.cons_append, gm, gm, gmT]
    cases ov.find? (fun j => !decide (j ∈ T) && P i j) with
    | none => exact gm_app a b T
    | some j => simp only [List.cons_append]; rw [gm_app a b (j :: T)]
theorem mem_gmT : ∀ (a : List Int) (T : List Int) (k : Int), k ∈ gmT P ov a T ↔ k ∈ T ∨ k ∈ (gm P ov a T).map S154.Record
  | [], _, _ => by simp [gmT, gm]
  | i :: a, T, k => by
    rw [gmT, gm]
    cases ov.find? (fun j => !decide (j ∈ T) && P i j) with
    | none => exact mem_gmT a T k
    | some j =>
      simp only
      rw [mem_gmT a (j :: T) k]
      simp only [List.mem_cons, List.map_cons]
      constructor
      · rintro ((h | h) | h)
        · exact .inr (.inl h)
        · exact .inl h
        · exact .inr (.inr h)
      · rintro (h | h | h)
        · exact .inl (.inr h)
        · exact .inl (.inl h)
        · exact .inr h
theorem gm_slots : ∀ (a : List Int) (T : List Int), ((gm P ov a T).map S154.Slot).Sublist a
  | [], _ => by simp [gm]
  | i :: a, T => by
    rw [gm]
    cases ov.find? (fun j => !decide (j ∈ T) && P i j) with
    | none => exact (gm_slots a T).cons _
    | some j => exact (gm_slots a (j :: T)).cons_cons _
theorem gm_ok : ∀ (a : List Int) (T : List Int), ∀ e ∈ gm P ov a T, P e.Slot e.Record = true ∧ e.Record ∈ ov ∧ e.Record ∉ T
  | [], _, e, h => by cases h
  | i :: a, T, e, h => by
    rw [gm] at h
    cases hf : ov.find? (fun j => !decide (j ∈ T) && P i j) with
    | none => rw [hf] at h; exact gm_ok a T e h
    | some j =>
      rw [hf] at h
      have h1 := List.find?_some hf
      simp only [Bool.and_eq_true, Bool.not_eq_true', decide_eq_false_iff_not] at h1
      rcases List.mem_cons.1 h with rfl | h
      · exact ⟨h1.2, List.mem_of_find?_eq_some hf, h1.1⟩
      · obtain ⟨g1, g2, g3⟩ := gm_ok a (j :: T) e h
        exact ⟨g1, g2, fun h' => g3 (List.mem_cons_of_mem _ h')⟩
theorem gm_recs : ∀ (a : List Int) (T : List Int), ((gm P ov a T).map S154.Record).Nodup
  | [], _ => by simp [gm]
  | i :: a, T => by
    rw [gm]
    cases ov.find? (fun j => !decide (j ∈ T) && P i j) with
    | none => exact gm_recs a T
    | some j =>
      rw [List.map_cons, List.nodup_cons]
      refine ⟨fun h => ?_, gm_recs a (j :: T)⟩
      obtain ⟨e, he, hj⟩ := List.mem_map.1 h
      exact (gm_ok a (j :: T) e he).2.2 (by rw [hj]; exact List.mem_cons_self)
end

/-! ### windows of one length: no cover is smaller than the matching -/
section
variable {C : Type} {A B : Int} {su sv : Int → Int} {cu cv : Int → C} {P : Int → Int → Bool} {ou ov : List Int}
structure Win (A B : Int) (su sv : Int → Int) (cu cv : Int → C) (P : Int → Int → Bool) (ou ov : List Int) : Prop where
  p : ∀ i ∈ ou, ∀ k ∈ ov, P i k = true ↔ cu i = cv k ∧ su i - B ≤ sv k ∧ sv k ≤ su i + A
  u : ou.Pairwise (fun i j => su i ≤ su j)
  un : ou.Nodup
  v : ov.Pairwise (fun i j => sv i ≤ sv j)

/-- all records of a class from t on, up to the end of a slot's window, are taken ahead of it -/
def Full (ov : List Int) (sv : Int → Int) (cv : Int → C) (rec : List Int) (c : C) (t e : Int) : Prop := ∀ k ∈ ov, cv k = c → t ≤ sv k → sv k ≤ e → k ∈ rec

/-- to be reached from a slot without a match -/
def Rch (A B : Int) (su sv : Int → Int) (cu cv : Int → C) (P : Int → Int → Bool) (ou ov : List Int) (i : Int) : Prop :=
  ∃ pre s0 post t, ou = pre ++ s0 :: post ∧ s0 ∉ (gm P ov ou []).map S154.Slot ∧ (i = s0 ∨ i ∈ pre) ∧ cu i = cu s0 ∧ t ≤ su i - B ∧ Full ov sv cv ((gm P ov pre []).map S154.Record) (cu s0) t (su s0 + A)

theorem rch_start (W : Win A B su sv cu cv P ou ov) {i : Int} (hi : i ∈ ou) (hn : i ∉ (gm P ov ou []).map S154.Slot) : Rch A B su sv cu cv P ou ov i := by
  obtain ⟨pre, post, he⟩ := List.append_of_mem hi
  refine ⟨pre, i, post, su i - B, he, hn, .inl rfl, rfl, by omega, fun k hk hc h1 h2 => ?_⟩
  have hp : P i k = true := (W.p i hi k hk).2 ⟨hc.symm, h1, h2⟩
  rw [he, gm_app] at hn
  cases hf : ov.find? (fun j => !decide (j ∈ gmT P ov pre []) && P i j) with
  | some j =>
    exact absurd (by rw [gm, hf]; simp) hn
  | none =>
    have := List.find?_eq_none.1 hf k hk
    simp only [hp, Bool.and_true, Bool.not_eq_true', decide_eq_false_iff_not, Decidable.not_not] at this
    rcases (mem_gmT pre [] k).1 this with h | h
    · cases h
    · exact h

theorem rch_step (W : Win A B su sv cu cv P ou ov) {i k : Int} (h : Rch A B su sv cu cv P ou ov i) (hk : k ∈ ov) (hp : P i k = true) : ∃ o, (⟨o, k⟩ : S154) ∈ gm P ov ou [] ∧ Rch A B su sv cu cv P ou ov o := by
  obtain ⟨pre, s0, post, t, he, hn, hi, hc, ht, hf⟩ := h
  have hiu : i ∈ ou := by rw [he]; rcases hi with rfl | hi <;> simp [*]
  have hs0 : s0 ∈ ou := by rw [he]; simp
  obtain ⟨p1, p2, p3⟩ := (W.p i hiu k hk).1 hp
  have hu := W.u
  rw [he] at hu
  have hle : ∀ x ∈ pre, su x ≤ su s0 := fun x hx => (List.pairwise_append.1 hu).2.2 x hx s0 List.mem_cons_self
  have hie : su i ≤ su s0 := by
    rcases hi with rfl | hi
    · exact Int.le_refl _
    · exact hle i hi
  have hkr := hf k hk (p1.symm.trans hc) (by omega) (by omega)
  obtain ⟨e, hem, hek⟩ := List.mem_map.1 hkr
  obtain ⟨o, k'⟩ := e
  simp only at hek
  subst hek
  have hop : o ∈ pre := (gm_slots (P := P) (ov := ov) pre []).subset (List.mem_map_of_mem (f := S154.Slot) hem)
  have hou : o ∈ ou := by rw [he]; exact List.mem_append_left _ hop
  have hmem : (⟨o, k'⟩ : S154) ∈ gm P ov ou [] := by rw [he, gm_app]; exact List.mem_append_left _ hem
  obtain ⟨q1, q2, q3⟩ := (W.p o hou k' hk).1 (gm_ok pre [] _ hem).1
  have hco : cu o = cu s0 := q1.trans (p1.symm.trans hc)
  refine ⟨o, hmem, pre, s0, post, min t (su o - B), he, hn, .inr hop, hco, by omega, fun x hx hxc h1 h2 => ?_⟩
  by_cases hxt : t ≤ sv x
  · exact hf x hx hxc hxt h2
  · -- ahead of what it took
    obtain ⟨p0, p9, hpe⟩ := List.append_of_mem hop
    have hpx : P o x = true := (W.p o hou x hx).2 ⟨hco.trans hxc.symm, by omega, by omega⟩
    rw [hpe, gm_app]
    rw [List.map_append, List.mem_append]
    rw [hpe, gm_app] at hem
    have hnd : pre.Nodup := by have := W.un; rw [he] at this; exact (List.nodup_append.1 this).1
    rw [hpe] at hnd
    -- the pair is made at o's turn
    have hturn : ov.find? (fun j => !decide (j ∈ gmT P ov p0 []) && P o j) = some k' := by
      rcases List.mem_append.1 hem with h | h
      · have := (gm_slots (P := P) (ov := ov) p0 []).subset (List.mem_map_of_mem (f := S154.Slot) h)
        exact absurd rfl ((List.nodup_append.1 hnd).2.2 o this o List.mem_cons_self)
      · rw [gm] at h
        cases hfd : ov.find? (fun j => !decide (j ∈ gmT P ov p0 []) && P o j) with
        | none =>
          rw [hfd] at h
          have := (gm_slots (P := P) (ov := ov) p9 _).subset (List.mem_map_of_mem (f := S154.Slot) h)
          exact absurd this (List.nodup_cons.1 (List.nodup_append.1 hnd).2.1).1
        | some j =>
          rw [hfd] at h
          rcases List.mem_cons.1 h with h | h
          · cases h; rfl
          · have := (gm_slots (P := P) (ov := ov) p9 _).subset (List.mem_map_of_mem (f := S154.Slot) h)
            exact absurd this (List.nodup_cons.1 (List.nodup_append.1 hnd).2.1).1
    by_cases hxT : x ∈ gmT P ov p0 []
    · rcases (mem_gmT p0 [] x).1 hxT with h | h
      · cases h
      · exact .inl h
    · exfalso
      obtain ⟨_, l1, l2, hov, hl1⟩ := List.find?_eq_some_iff_append.1 hturn
      have hv := W.v
      rw [hov] at hv hx
      rcases List.mem_append.1 hx with h | h
      · have := hl1 x h
        simp [hxT, hpx] at this
      · rcases List.mem_cons.1 h with h | h
        · subst h; omega
        · have := (List.pairwise_cons.1 (List.pairwise_append.1 hv).2.1).1 x h
          omega
end

/-! ### a matching is no greater than a cover -/
theorem filter_len {α : Type} (p : α → Bool) : ∀ (l : List α), l.length = (l.filter p).length + (l.filter (fun x => !p x)).length
  | [] => rfl
  | x :: l => by
    have := filter_len p l
    cases h : p x <;> simp [List.filter_cons, h] <;> omega
theorem cover_le {M : List S154} {a b : List Int} (hs : (M.map S154.Slot).Nodup) (hr : (M.map S154.Record).Nodup) (hc : ∀ e ∈ M, e.Slot ∈ a ∨ e.Record ∈ b) : M.length ≤ a.length + b.length := by
  rw [filter_len (fun e => decide (e.Slot ∈ a)) M]
  have h1 : (M.filter (fun e => decide (e.Slot ∈ a))).length ≤ a.length := by
    rw [← List.length_map (f := S154.Slot)]
    refine nodup_sub_len (hs.sublist (List.filter_sublist.map _)) fun x hx => ?_
    obtain ⟨e, he, rfl⟩ := List.mem_map.1 hx
    simpa using (List.mem_filter.1 he).2
  have h2 : (M.filter (fun e => !decide (e.Slot ∈ a))).length ≤ b.length := by
    rw [← List.length_map (f := S154.Record)]
    refine nodup_sub_len (hr.sublist (List.filter_sublist.map _)) fun x hx => ?_
    obtain ⟨e, he, rfl⟩ := List.mem_map.1 hx
    obtain ⟨he1, he2⟩ := List.mem_filter.1 he
    rcases hc e he1 with h | h
    · simp [h] at he2
    · exact h
  omega
end Go.Sim

namespace Go.Sim
end Go.Sim

namespace Go.Sim
/-! ## the states of the slots, written out -/
theorem match_gm (a0 : S23) (u v : List S151) : ∀ (rest : List Int) (k : Nat) (x : List S154) (m : List (Int × Bool)) (T : List Int), (∀ i ∈ rest, i ∈ idxs u.length) → (∀ j, mgetD m j false = decide (j ∈ T)) →
    s115_l1 a0 u v (ordI v) rest k x m = some (x ++ gm (okI a0 u v) (ordI v) rest T)
  | [], k, x, m, T, _, _ => by simp [s115_l1, gm]
  | i :: rest, k, x, m, T, hr, hm => by
    have hr' : ∀ j ∈ rest, j ∈ idxs u.length := fun j hj => hr j (List.mem_cons_of_mem _ hj)
    rw [s115_l1, s115_find (fun k_ z0_ z1_ => s115_l1 a0 u v (ordI v) rest k_ z0_ z1_) a0 u v x m k i (hr i List.mem_cons_self) (ordI v) 0 (fun j hj => ordI_mem.1 hj), gm]
    have hfun : (fun j => !(mgetD m j false) && okI a0 u v i j) = fun j => !decide (j ∈ T) && okI a0 u v i j := funext fun j => by rw [hm]
    rw [hfun]
    cases (ordI v).find? (fun j => !decide (j ∈ T) && okI a0 u v i j) with
    | none => exact match_gm a0 u v rest (k + 1) x m T hr' hm
    | some j =>
      simp only
      rw [match_gm a0 u v rest (k + 1) _ _ (j :: T) hr' fun z => by
        rw [mgetD_mset, hm]
        by_cases hz : j = z
        · subst hz; simp
        · have : ¬ z = j := fun e => hz e.symm
          simp [hz, this]]
      simp
def mat (a0 : S23) (u v : List S151) : List S154 := gm (okI a0 u v) (ordI v) (ordI u) []
theorem s115_eq (a0 : S23) (u v : List S151) : s115 a0 u v = some (mat a0 u v) := by
  unfold s115 mat
  rw [s168_ok, s168_ok]
  simp only [bindO]
  rw [match_gm a0 u v (ordI u) 0 [] [] [] (fun i hi => ordI_mem.1 hi) (fun j => by simp [mgetD, mget])]
  rfl
theorem mat_slot {a0 : S23} {u v : List S151} {e : S154} (h : e ∈ mat a0 u v) : e.Slot ∈ idxs u.length :=
  ordI_mem.1 ((gm_slots (P := okI a0 u v) (ov := ordI v) (ordI u) []).subset (List.mem_map_of_mem h))
theorem mat_rec {a0 : S23} {u v : List S151} {e : S154} (h : e ∈ mat a0 u v) : e.Record ∈ idxs v.length := ordI_mem.1 (gm_ok _ _ e h).2.1
theorem mat_slots (a0 : S23) (u v : List S151) : ((mat a0 u v).map S154.Slot).Nodup := (ordI_nodup u).sublist (gm_slots _ _)
theorem mat_recs (a0 : S23) (u v : List S151) : ((mat a0 u v).map S154.Record).Nodup := gm_recs _ _

def base (g x : S151 → Bool) (s : S151) : Int := bif g s then 0 else bif x s then 2 else 3
end Go.Sim

