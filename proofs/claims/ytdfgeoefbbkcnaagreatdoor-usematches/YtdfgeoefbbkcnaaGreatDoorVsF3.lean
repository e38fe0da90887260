/-
  What is proved: UseMatches: its walk, and its law: it is true of every rule and all slots.
-/
import Derived.Test.YtdfgeoefbbkcnaaGreatDoorVsF2
import Derived.Test.YtdfgeoefbbkcnaaGreatDoorVaA9
set_option linter.unusedSectionVars false
set_option linter.unusedSimpArgs false
set_option linter.unusedVariables false
set_option linter.unnecessarySimpa false
set_option linter.deprecated false
set_option linter.unusedSimpArgs false
set_option linter.unusedVariables false
set_option maxRecDepth 10000
namespace Go.Sim
open Go.Proofs


/-- turnroundref09.Matches -/
def s52_j1 (rec2 : Nat → (List S154) → Option (List S154)) (k9 : Nat) (x12 : List S154) : Option (List S154) :=
  rec2 (k9 + 1) x12
def s52_l2 (rec1 : Nat → (List S154) → Option (List S154)) (k4 : Nat) : List S154 → Nat → (List S154) → Option (List S154)
  | [], k9, x7 => rec1 (k4 + 1) x7
  | y10 :: t11, k9, x7 => (bif decide (y10.Slot = ((k4 : Nat) : Int)) then s52_j1 (fun k_ z0_ => s52_l2 rec1 k4 t11 k_ z0_) k9 (x7 ++ [y10]) else s52_j1 (fun k_ z0_ => s52_l2 rec1 k4 t11 k_ z0_) k9 x7)
def s52_l1 (r1 : List S154) : List S151 → Nat → (List S154) → Option (List S154)
  | [], k4, x2 => some x2
  | y5 :: t6, k4, x2 => s52_l2 (fun k_ z0_ => s52_l1 r1 t6 k_ z0_) k4 r1 0 x2
def s52 (a0 : S23) (a1 : List S151) (a2 : List S151) : Option (List S154) :=
  bindO (s120 a0 a1 a2) fun r1 => s52_l1 r1 a1 0 []
theorem n52 {g : List (Nat × List Value)} (a0 : S23) (a1 : List S151) (a2 : List S151) {R : List S154}  (hb1 : a1.length ≤ 12) (hb2 : a2.length ≤ 12) (hR : s52 a0 a1 a2 = some R) : ConN (EG g) 52 [G.agg [G.int a0.Before, G.int a0.After, G.int a0.Notice, G.int a0.Share, G.sl 1 (List.map cStr a0.Causes), G.int a0.Off, G.int a0.Run], G.sl 3 (List.map S151.c a1), G.sl 3 (List.map S151.c a2)] 158 2 (List.map S154.c R) := by
  unfold s52 at hR
  refine conN_of_aw Tryz.func52 rfl rfl fun w0 M0 => ?_
  refine len_sl (f := S151.c) (l := a1) 1 rfl fun hla1 => ?_
  refine len_sl (f := S151.c) (l := a2) 2 rfl fun hla2 => ?_
  refine aw_seq ?_
  refine aw_region [.p, .w] ?_
  refine st rfl rfl (eff_box rfl rfl) rfl ?_
  refine st_w rfl rfl (eff_nilL 6 158 2 rfl rfl rfl) rfl ?_
  refine st_nil ?_
  refine aw_seq ?_
  obtain ⟨r1, br1, hR⟩ := bindO_inv hR
  refine aw_region [.p, .p, .p, .p, .p] ?_
  refine st rfl rfl (eff_loadA rfl ty29 rfl rfl rfl) rfl ?_
  refine st rfl rfl (eff_moveg rfl rfl) rfl ?_
  refine st rfl rfl (eff_moveg rfl rfl) rfl ?_
  refine st rfl rfl (eff_call rfl K120 rfl (c120 a0 a1 a2 (by first | assumption | omega | (simp [copyL_len]; omega)) (by first | assumption | omega | (simp [copyL_len]; omega)) br1) (ag_cons rfl (ag_cons rfl (ag_cons rfl ag_nil)))) rfl ?_
  refine st rfl rfl (eff_assigng rfl rfl) rfl ?_
  refine st_nil ?_
  have hlm := len120 br1
  refine aw_seq ?_
  refine aw_region [.w] ?_
  refine st_w rfl rfl (eff_nilL 8 158 2 rfl rfl rfl) rfl ?_
  refine st_nil ?_
  refine aw_seq ?_
  refine aw_seq ?_
  refine aw_region [.p] ?_
  refine st rfl rfl (eff_assigng rfl rfl) rfl ?_
  refine st_nil ?_
  refine aw_block ?_
  refine aw_loop_g (γ := Nat × (List S151) × (List S154)) (fun g => ([(1, .g (G.sl 3 (List.map S151.c a1))), (7, .g (G.sl 2 (List.map S154.c r1))), (8, .osl 8 2 0 (List.length g.2.2)), (9, .g (G.int ((g.1 : Nat) : Int)))], [(8, .arr 158 2 (List.map S154.c g.2.2))])) (fun g => g.2.2.length ≤ g.1 * 12 ∧ a1.drop g.1 = g.2.1 ∧ s52_l1 r1 g.2.1 g.1 g.2.2 = some R) (fun g => List.length g.2.1) ⟨rfl, (0, a1, []), ⟨rfl, rfl, rfl, rfl, trivial⟩, ⟨rfl, trivial⟩, rfl, ⟨(by first | (simp; done) | (simp; omega)), rfl, hR⟩, trivial⟩ ?_
  · rintro ⟨k4, t6, x2⟩ ⟨iv1_0, hd, hR⟩
    replace hd : a1.drop k4 = t6 := hd
    replace hR : s52_l1 r1 t6 k4 x2 = some R := hR
    replace iv1_0 : x2.length ≤ k4 * 12 := iv1_0
    refine aw_seq ?_
    refine aw_seq ?_
    refine aw_region [.p, .p, .p, .p] ?_
    refine st rfl rfl (eff_moveg rfl rfl) rfl ?_
    refine st rfl rfl (eff_moveg rfl rfl) rfl ?_
    refine st rfl rfl (eff_lenM (f := S151.c) (l := a1) rfl Tryz.underlying32 rfl) rfl ?_
    refine st rfl rfl (eff_lss rfl rfl rfl) rfl ?_
    refine st_nil ?_
    refine len_sl (f := S151.c) (l := a1) 1 rfl fun hlz1 => ?_
    refine aw_cond _ rfl (fun h1 => ?_) (fun h1 => ?_)
    · replace h1 : (decide (((k4 : Nat) : Int) < (List.length a1 : Int))) = true := h1
      obtain ⟨y5, t6, rfl, hx1, hd⟩ := drop_cons hd (decT h1)
      replace h1 := decT h1
      rw [s52_l1] at hR
      try dsimp only at hR
      refine aw_skip ?_
      refine aw_seq ?_
      refine aw_block ?_
      refine aw_seq ?_
      refine aw_region [.p] ?_
      refine st rfl rfl (eff_assigng rfl rfl) rfl ?_
      refine st_nil ?_
      refine aw_block ?_
      refine aw_loop_g (γ := Nat × (List S154) × (List S154)) (fun g => ([(1, .g (G.sl 3 (List.map S151.c a1))), (7, .g (G.sl 2 (List.map S154.c r1))), (8, .osl 8 2 0 (List.length g.2.2)), (9, .g (G.int ((k4 : Nat) : Int))), (10, .g (G.int ((g.1 : Nat) : Int)))], [(8, .arr 158 2 (List.map S154.c g.2.2))])) (fun g => g.2.2.length ≤ k4 * 12 + g.1 ∧ g.1 ≤ r1.length ∧ r1.drop g.1 = g.2.1 ∧ s52_l2 (fun k_ z0_ => s52_l1 r1 t6 k_ z0_) k4 g.2.1 g.1 g.2.2 = some R) (fun g => List.length g.2.1) ⟨rfl, (0, r1, x2), ⟨rfl, rfl, rfl, rfl, rfl, trivial⟩, ⟨rfl, trivial⟩, rfl, ⟨(by first | (simp; done) | (simp; omega)), (by first | (simp; done) | (simp; omega)), rfl, hR⟩, trivial⟩ ?_
      · rintro ⟨k9, t11, x7⟩ ⟨iv2_0, iv2_1, hd2, hR⟩
        replace hd2 : r1.drop k9 = t11 := hd2
        replace hR : s52_l2 (fun k_ z0_ => s52_l1 r1 t6 k_ z0_) k4 t11 k9 x7 = some R := hR
        replace iv2_0 : x7.length ≤ k4 * 12 + k9 := iv2_0
        replace iv2_1 : k9 ≤ r1.length := iv2_1
        refine aw_seq ?_
        refine aw_seq ?_
        refine aw_region [.p, .p, .p, .p] ?_
        refine st rfl rfl (eff_moveg rfl rfl) rfl ?_
        refine st rfl rfl (eff_moveg rfl rfl) rfl ?_
        refine st rfl rfl (eff_lenM (f := S154.c) (l := r1) rfl Tryz.underlying89 rfl) rfl ?_
        refine st rfl rfl (eff_lss rfl rfl rfl) rfl ?_
        refine st_nil ?_
        refine len_sl (f := S154.c) (l := r1) 7 rfl fun hlz2 => ?_
        refine aw_cond _ rfl (fun h3 => ?_) (fun h3 => ?_)
        · replace h3 : (decide (((k9 : Nat) : Int) < (List.length r1 : Int))) = true := h3
          obtain ⟨y10, t11, rfl, hx2, hd2⟩ := drop_cons hd2 (decT h3)
          replace h3 := decT h3
          rw [s52_l2] at hR
          try dsimp only at hR
          refine aw_skip ?_
          refine aw_cut_g (γ := (List S154)) (fun g => ([(1, .g (G.sl 3 (List.map S151.c a1))), (7, .g (G.sl 2 (List.map S154.c r1))), (8, .osl 8 2 0 (List.length g)), (9, .g (G.int ((k4 : Nat) : Int))), (10, .g (G.int ((k9 : Nat) : Int)))], [(8, .arr 158 2 (List.map S154.c g))])) (fun g => g.length ≤ x7.length + 1 ∧ s52_j1 (fun k_ z0_ => s52_l2 (fun k_ z0_ => s52_l1 r1 t6 k_ z0_) k4 t11 k_ z0_) k9 g = some R) ?_ ?_
          · refine aw_block ?_
            refine aw_seq ?_
            refine aw_region [.p, .p, .p, .p, .p, .p, .p] ?_
            refine st rfl rfl (eff_moveg rfl rfl) rfl ?_
            refine st rfl rfl (eff_moveg rfl rfl) rfl ?_
            refine st rfl rfl (eff_ix (f := S154.c) (l := r1) (a := y10) rfl Tryz.underlying89 ty158 rfl rfl (Int.natCast_nonneg _) hx2) rfl ?_
            refine st rfl rfl (eff_fieldAddr rfl fl158_0 rfl) rfl ?_
            refine st rfl rfl (eff_load rfl ty3 rfl) rfl ?_
            refine st rfl rfl (eff_moveg rfl rfl) rfl ?_
            refine st rfl rfl (eff_eql rfl rfl rfl) rfl ?_
            refine st_nil ?_
            refine aw_cond _ rfl (fun h5 => ?_) (fun h5 => ?_)
            · replace h5 : (decide (y10.Slot = ((k4 : Nat) : Int))) = true := h5
              replace hR := condT hR h5
              try simp only [Bool.or_eq_true, Bool.and_eq_true, Bool.or_eq_false_iff, Bool.and_eq_false_iff, Bool.not_eq_true', Bool.not_eq_false', decide_eq_true_eq, decide_eq_false_iff_not] at h5
              refine aw_region [.p, .p, .p, .p, .p, .p, .k, .p] ?_
              refine st rfl rfl (eff_moveO rfl rfl) rfl ?_
              refine st rfl rfl (eff_moveg rfl rfl) rfl ?_
              refine st rfl rfl (eff_moveg rfl rfl) rfl ?_
              refine st rfl rfl (eff_ix (f := S154.c) (l := r1) (a := y10) rfl Tryz.underlying89 ty158 rfl rfl (Int.natCast_nonneg _) hx2) rfl ?_
              refine st rfl rfl (eff_loadA rfl ty158 rfl rfl rfl) rfl ?_
              refine st rfl rfl (eff_buildSlice rfl Tryz.underlying89 ty158 z158 rfl (ps_cons rfl ps_nil) rfl (by simp [S154.c]) (by decide)) rfl ?_
              refine st_k rfl rfl (eff_appL (f := S154.c) (out := x7) (new := [y10]) rfl app89 rfl rfl (src_eq rfl (src_sl (by decide) (by simp [S154.c]))) (refsN rfl) (by simp; omega)) rfl ?_
              refine st rfl rfl (eff_assignO rfl rfl) rfl ?_
              refine st_nil ?_
              exact ⟨rfl, x7 ++ [y10], ⟨rfl, rfl, rfl, rfl, rfl, trivial⟩, ⟨rfl, trivial⟩, rfl, ⟨(by first | omega | (dsimp only; omega) | (simp at *; done) | (simp at *; omega)), hR⟩, trivial⟩
            · replace h5 : (decide (y10.Slot = ((k4 : Nat) : Int))) = false := h5
              replace hR := condF hR h5
              try simp only [Bool.or_eq_true, Bool.and_eq_true, Bool.or_eq_false_iff, Bool.and_eq_false_iff, Bool.not_eq_true', Bool.not_eq_false', decide_eq_true_eq, decide_eq_false_iff_not] at h5
              refine aw_skip ?_
              exact ⟨rfl, x7, ⟨rfl, rfl, rfl, rfl, rfl, trivial⟩, ⟨rfl, trivial⟩, rfl, ⟨(by first | omega | (dsimp only; omega) | (simp at *; done) | (simp at *; omega)), hR⟩, trivial⟩
          · rintro x12 ⟨jv1_0, hR⟩
            replace jv1_0 : x12.length ≤ x7.length + 1 := jv1_0
            replace hR : s52_j1 (fun k_ z0_ => s52_l2 (fun k_ z0_ => s52_l1 r1 t6 k_ z0_) k4 t11 k_ z0_) k9 x12 = some R := hR
            unfold s52_j1 at hR
            refine aw_region [.p, .p, .p] ?_
            refine st rfl rfl (eff_moveg rfl rfl) rfl ?_
            refine st rfl rfl (eff_add rfl rfl rfl (by unfold I64; omega)) rfl ?_
            refine st rfl rfl (eff_assigng rfl rfl) rfl ?_
            refine st_nil ?_
            exact ⟨rfl, (k9 + 1, t11, x12), ⟨rfl, rfl, rfl, rfl, rfl, trivial⟩, ⟨rfl, trivial⟩, rfl, ⟨(by first | omega | (dsimp only; omega) | (simp at *; omega)), (by first | omega | (dsimp only; omega) | (simp at *; omega)), hd2, hR⟩, by simp⟩
        · replace h3 : (decide (((k9 : Nat) : Int) < (List.length r1 : Int))) = false := h3
          obtain rfl := drop_nil hd2 (decF h3)
          rw [s52_l2] at hR
          refine aw_exit ?_
          refine aw_region [.p, .p, .p] ?_
          refine st rfl rfl (eff_moveg rfl rfl) rfl ?_
          refine st rfl rfl (eff_add rfl rfl rfl (by unfold I64; omega)) rfl ?_
          refine st rfl rfl (eff_assigng rfl rfl) rfl ?_
          refine st_nil ?_
          exact ⟨rfl, (k4 + 1, t6, x7), ⟨rfl, rfl, rfl, rfl, trivial⟩, ⟨rfl, trivial⟩, rfl, ⟨(by first | omega | (dsimp only; omega) | (simp at *; omega)), hd, hR⟩, by simp⟩
    · replace h1 : (decide (((k4 : Nat) : Int) < (List.length a1 : Int))) = false := h1
      obtain rfl := drop_nil hd (decF h1)
      rw [s52_l1] at hR
      refine aw_exit ?_
      refine aw_seq ?_
      refine aw_region [.p, .p] ?_
      refine st rfl rfl (eff_moveO rfl rfl) rfl ?_
      refine st rfl rfl (eff_assignO rfl rfl) rfl ?_
      refine st_nil ?_
      refine aw_ret ?_
      obtain rfl := Option.some.inj hR
      exact doneN_own rfl rfl rfl ((List.length_map ..).trans rfl)
theorem c52 {g : List (Nat × List Value)} (a0 : S23) (a1 : List S151) (a2 : List S151) {R : List S154}  (hb1 : a1.length ≤ 12) (hb2 : a2.length ≤ 12) (hR : s52 a0 a1 a2 = some R) : Con (EG g) 52 [G.agg [G.int a0.Before, G.int a0.After, G.int a0.Notice, G.int a0.Share, G.sl 1 (List.map cStr a0.Causes), G.int a0.Off, G.int a0.Run], G.sl 3 (List.map S151.c a1), G.sl 3 (List.map S151.c a2)] (G.sl 2 (List.map S154.c R)) :=
  ConN.con (by decide) (n52 a0 a1 a2 hb1 hb2 hR)

/-- turnroundref09.Missed -/
def s53_j1 (rec1 : Nat → (List Int) → Option (List Int)) (k4 : Nat) (x7 : List Int) : Option (List Int) :=
  rec1 (k4 + 1) x7
def s53_l2 (rec1 : Nat → (List Int) → Option (List Int)) (x2 : List Int) (k4 : Nat) : List S154 → Nat → Bool → Option (List Int)
  | [], k10, x8 => (bif !x8 then s53_j1 rec1 k4 (x2 ++ [((k4 : Nat) : Int)]) else s53_j1 rec1 k4 x2)
  | y11 :: t12, k10, x8 => s53_l2 rec1 x2 k4 t12 (k10 + 1) (x8 || (decide (y11.Slot = ((k4 : Nat) : Int))))
def s53_l1 (r1 : List S154) : List S151 → Nat → (List Int) → Option (List Int)
  | [], k4, x2 => some x2
  | y5 :: t6, k4, x2 => s53_l2 (fun k_ z0_ => s53_l1 r1 t6 k_ z0_) x2 k4 r1 0 false
def s53 (a0 : S23) (a1 : List S151) (a2 : List S151) : Option (List Int) :=
  bindO (s120 a0 a1 a2) fun r1 => s53_l1 r1 a1 0 []
theorem n53 {g : List (Nat × List Value)} (a0 : S23) (a1 : List S151) (a2 : List S151) {R : List Int}  (hb1 : a1.length ≤ 12) (hb2 : a2.length ≤ 12) (hR : s53 a0 a1 a2 = some R) : ConN (EG g) 53 [G.agg [G.int a0.Before, G.int a0.After, G.int a0.Notice, G.int a0.Share, G.sl 1 (List.map cStr a0.Causes), G.int a0.Off, G.int a0.Run], G.sl 3 (List.map S151.c a1), G.sl 3 (List.map S151.c a2)] 3 1 (List.map cInt R) := by
  unfold s53 at hR
  refine conN_of_aw Tryz.func53 rfl rfl fun w0 M0 => ?_
  refine len_sl (f := S151.c) (l := a1) 1 rfl fun hla1 => ?_
  refine len_sl (f := S151.c) (l := a2) 2 rfl fun hla2 => ?_
  refine aw_seq ?_
  refine aw_region [.p, .w] ?_
  refine st rfl rfl (eff_box rfl rfl) rfl ?_
  refine st_w rfl rfl (eff_nilL 6 3 1 rfl rfl rfl) rfl ?_
  refine st_nil ?_
  refine aw_seq ?_
  obtain ⟨r1, br1, hR⟩ := bindO_inv hR
  refine aw_region [.p, .p, .p, .p, .p] ?_
  refine st rfl rfl (eff_loadA rfl ty29 rfl rfl rfl) rfl ?_
  refine st rfl rfl (eff_moveg rfl rfl) rfl ?_
  refine st rfl rfl (eff_moveg rfl rfl) rfl ?_
  refine st rfl rfl (eff_call rfl K120 rfl (c120 a0 a1 a2 (by first | assumption | omega | (simp [copyL_len]; omega)) (by first | assumption | omega | (simp [copyL_len]; omega)) br1) (ag_cons rfl (ag_cons rfl (ag_cons rfl ag_nil)))) rfl ?_
  refine st rfl rfl (eff_assigng rfl rfl) rfl ?_
  refine st_nil ?_
  refine aw_seq ?_
  refine aw_region [.w] ?_
  refine st_w rfl rfl (eff_nilL 8 3 1 rfl rfl rfl) rfl ?_
  refine st_nil ?_
  refine aw_seq ?_
  refine aw_seq ?_
  refine aw_region [.p] ?_
  refine st rfl rfl (eff_assigng rfl rfl) rfl ?_
  refine st_nil ?_
  refine aw_block ?_
  refine aw_loop_g (γ := Nat × (List S151) × (List Int)) (fun g => ([(1, .g (G.sl 3 (List.map S151.c a1))), (7, .g (G.sl 2 (List.map S154.c r1))), (8, .osl 8 1 0 (List.length g.2.2)), (9, .g (G.int ((g.1 : Nat) : Int)))], [(8, .arr 3 1 (List.map cInt g.2.2))])) (fun g => g.2.2.length ≤ g.1 ∧ a1.drop g.1 = g.2.1 ∧ s53_l1 r1 g.2.1 g.1 g.2.2 = some R) (fun g => List.length g.2.1) ⟨rfl, (0, a1, []), ⟨rfl, rfl, rfl, rfl, trivial⟩, ⟨rfl, trivial⟩, rfl, ⟨(by first | (simp; done) | (simp; omega)), rfl, hR⟩, trivial⟩ ?_
  · rintro ⟨k4, t6, x2⟩ ⟨iv1_0, hd, hR⟩
    replace hd : a1.drop k4 = t6 := hd
    replace hR : s53_l1 r1 t6 k4 x2 = some R := hR
    replace iv1_0 : x2.length ≤ k4 := iv1_0
    refine aw_seq ?_
    refine aw_seq ?_
    refine aw_region [.p, .p, .p, .p] ?_
    refine st rfl rfl (eff_moveg rfl rfl) rfl ?_
    refine st rfl rfl (eff_moveg rfl rfl) rfl ?_
    refine st rfl rfl (eff_lenM (f := S151.c) (l := a1) rfl Tryz.underlying32 rfl) rfl ?_
    refine st rfl rfl (eff_lss rfl rfl rfl) rfl ?_
    refine st_nil ?_
    refine len_sl (f := S151.c) (l := a1) 1 rfl fun hlz1 => ?_
    refine aw_cond _ rfl (fun h1 => ?_) (fun h1 => ?_)
    · replace h1 : (decide (((k4 : Nat) : Int) < (List.length a1 : Int))) = true := h1
      obtain ⟨y5, t6, rfl, hx1, hd⟩ := drop_cons hd (decT h1)
      replace h1 := decT h1
      rw [s53_l1] at hR
      try dsimp only at hR
      refine aw_skip ?_
      refine aw_cut_g (γ := (List Int)) (fun g => ([(1, .g (G.sl 3 (List.map S151.c a1))), (7, .g (G.sl 2 (List.map S154.c r1))), (8, .osl 8 1 0 (List.length g)), (9, .g (G.int ((k4 : Nat) : Int)))], [(8, .arr 3 1 (List.map cInt g))])) (fun g => g.length ≤ k4 + 1 ∧ s53_j1 (fun k_ z0_ => s53_l1 r1 t6 k_ z0_) k4 g = some R) ?_ ?_
      · refine aw_block ?_
        refine aw_seq ?_
        refine aw_region [.p] ?_
        refine st rfl rfl (eff_assigng rfl rfl) rfl ?_
        refine st_nil ?_
        refine aw_seq ?_
        refine aw_seq ?_
        refine aw_region [.p] ?_
        refine st rfl rfl (eff_assigng rfl rfl) rfl ?_
        refine st_nil ?_
        refine aw_block ?_
        refine aw_loop_g (γ := Nat × (List S154) × Bool) (fun g => ([(1, .g (G.sl 3 (List.map S151.c a1))), (7, .g (G.sl 2 (List.map S154.c r1))), (8, .osl 8 1 0 (List.length x2)), (9, .g (G.int ((k4 : Nat) : Int))), (10, .g (G.bool g.2.2)), (11, .g (G.int ((g.1 : Nat) : Int)))], [(8, .arr 3 1 (List.map cInt x2))])) (fun g => r1.drop g.1 = g.2.1 ∧ s53_l2 (fun k_ z0_ => s53_l1 r1 t6 k_ z0_) x2 k4 g.2.1 g.1 g.2.2 = some R) (fun g => List.length g.2.1) ⟨rfl, (0, r1, false), ⟨rfl, rfl, rfl, rfl, rfl, rfl, trivial⟩, ⟨rfl, trivial⟩, rfl, ⟨rfl, hR⟩, trivial⟩ ?_
        · rintro ⟨k10, t12, x8⟩ ⟨hd2, hR⟩
          replace hd2 : r1.drop k10 = t12 := hd2
          replace hR : s53_l2 (fun k_ z0_ => s53_l1 r1 t6 k_ z0_) x2 k4 t12 k10 x8 = some R := hR
          refine aw_seq ?_
          refine aw_seq ?_
          refine aw_region [.p, .p, .p, .p] ?_
          refine st rfl rfl (eff_moveg rfl rfl) rfl ?_
          refine st rfl rfl (eff_moveg rfl rfl) rfl ?_
          refine st rfl rfl (eff_lenM (f := S154.c) (l := r1) rfl Tryz.underlying89 rfl) rfl ?_
          refine st rfl rfl (eff_lss rfl rfl rfl) rfl ?_
          refine st_nil ?_
          refine len_sl (f := S154.c) (l := r1) 7 rfl fun hlz2 => ?_
          refine aw_cond _ rfl (fun h3 => ?_) (fun h3 => ?_)
          · replace h3 : (decide (((k10 : Nat) : Int) < (List.length r1 : Int))) = true := h3
            obtain ⟨y11, t12, rfl, hx2, hd2⟩ := drop_cons hd2 (decT h3)
            replace h3 := decT h3
            rw [s53_l2] at hR
            try dsimp only at hR
            refine aw_skip ?_
            refine aw_seq ?_
            refine aw_block ?_
            refine aw_region [.p, .p, .p, .p, .p, .p, .p, .p, .p, .p, .p] ?_
            refine st rfl rfl (eff_moveg rfl rfl) rfl ?_
            refine st rfl rfl (eff_moveg rfl rfl) rfl ?_
            refine st_g rfl rfl rfl (gb_bool _ _) (fun h => eff_moveg rfl rfl) rfl ?_
            refine st_g rfl rfl rfl (gb_bool _ _) (fun h => eff_moveg rfl rfl) rfl ?_
            refine st_g rfl rfl rfl (gb_bool _ _) (fun h => eff_ix (f := S154.c) (l := r1) (a := y11) rfl Tryz.underlying89 ty158 (gd h rfl) (gd h rfl) (Int.natCast_nonneg _) hx2) rfl ?_
            refine st_g rfl rfl rfl (gb_bool _ _) (fun h => eff_fieldAddr rfl fl158_0 (gd h rfl)) rfl ?_
            refine st_g rfl rfl rfl (gb_bool _ _) (fun h => eff_load rfl ty3 (gd h rfl)) rfl ?_
            refine st_g rfl rfl rfl (gb_bool _ _) (fun h => eff_moveg rfl rfl) rfl ?_
            refine st_g rfl rfl rfl (gb_bool _ _) (fun h => eff_eql rfl (gd h rfl) (gd h rfl)) rfl ?_
            refine st rfl rfl (eff_or rfl rfl rfl rfl) rfl ?_
            refine st rfl rfl (eff_assigng rfl rfl) rfl ?_
            refine st_nil ?_
            refine aw_region [.p, .p, .p] ?_
            refine st rfl rfl (eff_moveg rfl rfl) rfl ?_
            refine st rfl rfl (eff_add rfl rfl rfl (by unfold I64; omega)) rfl ?_
            refine st rfl rfl (eff_assigng rfl rfl) rfl ?_
            refine st_nil ?_
            exact ⟨rfl, (k10 + 1, t12, x8 || (decide (y11.Slot = ((k4 : Nat) : Int)))), ⟨rfl, rfl, rfl, rfl, rfl, rfl, trivial⟩, ⟨rfl, trivial⟩, rfl, ⟨hd2, hR⟩, by simp⟩
          · replace h3 : (decide (((k10 : Nat) : Int) < (List.length r1 : Int))) = false := h3
            obtain rfl := drop_nil hd2 (decF h3)
            rw [s53_l2] at hR
            refine aw_exit ?_
            refine aw_seq ?_
            refine aw_region [.p, .p] ?_
            refine st rfl rfl (eff_moveg rfl rfl) rfl ?_
            refine st rfl rfl (eff_not rfl rfl) rfl ?_
            refine st_nil ?_
            refine aw_cond _ rfl (fun h5 => ?_) (fun h5 => ?_)
            · replace h5 : (!x8) = true := h5
              replace hR := condT hR h5
              try simp only [Bool.or_eq_true, Bool.and_eq_true, Bool.or_eq_false_iff, Bool.and_eq_false_iff, Bool.not_eq_true', Bool.not_eq_false', decide_eq_true_eq, decide_eq_false_iff_not] at h5
              refine aw_region [.p, .p, .p, .k, .p] ?_
              refine st rfl rfl (eff_moveO rfl rfl) rfl ?_
              refine st rfl rfl (eff_moveg rfl rfl) rfl ?_
              refine st rfl rfl (eff_buildSlice rfl Tryz.underlying82 ty3 z3 rfl (ps_cons rfl ps_nil) rfl (by simp []) (by decide)) rfl ?_
              refine st_k rfl rfl (eff_appL (f := cInt) (out := x2) (new := [((k4 : Nat) : Int)]) rfl app82 rfl rfl (src_eq rfl (src_sl (by decide) (by simp []))) (refsN rfl) (by simp; omega)) rfl ?_
              refine st rfl rfl (eff_assignO rfl rfl) rfl ?_
              refine st_nil ?_
              exact ⟨rfl, x2 ++ [((k4 : Nat) : Int)], ⟨rfl, rfl, rfl, rfl, trivial⟩, ⟨rfl, trivial⟩, rfl, ⟨(by first | omega | (dsimp only; omega) | (simp at *; done) | (simp at *; omega)), hR⟩, trivial⟩
            · replace h5 : (!x8) = false := h5
              replace hR := condF hR h5
              try simp only [Bool.or_eq_true, Bool.and_eq_true, Bool.or_eq_false_iff, Bool.and_eq_false_iff, Bool.not_eq_true', Bool.not_eq_false', decide_eq_true_eq, decide_eq_false_iff_not] at h5
              refine aw_skip ?_
              exact ⟨rfl, x2, ⟨rfl, rfl, rfl, rfl, trivial⟩, ⟨rfl, trivial⟩, rfl, ⟨(by first | omega | (dsimp only; omega) | (simp at *; done) | (simp at *; omega)), hR⟩, trivial⟩
      · rintro x7 ⟨jv1_0, hR⟩
        replace jv1_0 : x7.length ≤ k4 + 1 := jv1_0
        replace hR : s53_j1 (fun k_ z0_ => s53_l1 r1 t6 k_ z0_) k4 x7 = some R := hR
        unfold s53_j1 at hR
        refine aw_region [.p, .p, .p] ?_
        refine st rfl rfl (eff_moveg rfl rfl) rfl ?_
        refine st rfl rfl (eff_add rfl rfl rfl (by unfold I64; omega)) rfl ?_
        refine st rfl rfl (eff_assigng rfl rfl) rfl ?_
        refine st_nil ?_
        exact ⟨rfl, (k4 + 1, t6, x7), ⟨rfl, rfl, rfl, rfl, trivial⟩, ⟨rfl, trivial⟩, rfl, ⟨(by first | omega | (dsimp only; omega) | (simp at *; omega)), hd, hR⟩, by simp⟩
    · replace h1 : (decide (((k4 : Nat) : Int) < (List.length a1 : Int))) = false := h1
      obtain rfl := drop_nil hd (decF h1)
      rw [s53_l1] at hR
      refine aw_exit ?_
      refine aw_seq ?_
      refine aw_region [.p, .p] ?_
      refine st rfl rfl (eff_moveO rfl rfl) rfl ?_
      refine st rfl rfl (eff_assignO rfl rfl) rfl ?_
      refine st_nil ?_
      refine aw_ret ?_
      obtain rfl := Option.some.inj hR
      exact doneN_own rfl rfl rfl ((List.length_map ..).trans rfl)
theorem c53 {g : List (Nat × List Value)} (a0 : S23) (a1 : List S151) (a2 : List S151) {R : List Int}  (hb1 : a1.length ≤ 12) (hb2 : a2.length ≤ 12) (hR : s53 a0 a1 a2 = some R) : Con (EG g) 53 [G.agg [G.int a0.Before, G.int a0.After, G.int a0.Notice, G.int a0.Share, G.sl 1 (List.map cStr a0.Causes), G.int a0.Off, G.int a0.Run], G.sl 3 (List.map S151.c a1), G.sl 3 (List.map S151.c a2)] (G.sl 1 (List.map cInt R)) :=
  ConN.con (by decide) (n53 a0 a1 a2 hb1 hb2 hR)

/-- turnroundref09.Extra -/
def s54_j1 (rec1 : Nat → (List Int) → Option (List Int)) (k4 : Nat) (x7 : List Int) : Option (List Int) :=
  rec1 (k4 + 1) x7
def s54_l2 (rec1 : Nat → (List Int) → Option (List Int)) (x2 : List Int) (k4 : Nat) : List S154 → Nat → Bool → Option (List Int)
  | [], k10, x8 => (bif !x8 then s54_j1 rec1 k4 (x2 ++ [((k4 : Nat) : Int)]) else s54_j1 rec1 k4 x2)
  | y11 :: t12, k10, x8 => s54_l2 rec1 x2 k4 t12 (k10 + 1) (x8 || (decide (y11.Record = ((k4 : Nat) : Int))))
def s54_l1 (r1 : List S154) : List S151 → Nat → (List Int) → Option (List Int)
  | [], k4, x2 => some x2
  | y5 :: t6, k4, x2 => s54_l2 (fun k_ z0_ => s54_l1 r1 t6 k_ z0_) x2 k4 r1 0 false
def s54 (a0 : S23) (a1 : List S151) (a2 : List S151) : Option (List Int) :=
  bindO (s120 a0 a1 a2) fun r1 => s54_l1 r1 a2 0 []
theorem n54 {g : List (Nat × List Value)} (a0 : S23) (a1 : List S151) (a2 : List S151) {R : List Int}  (hb1 : a1.length ≤ 12) (hb2 : a2.length ≤ 12) (hR : s54 a0 a1 a2 = some R) : ConN (EG g) 54 [G.agg [G.int a0.Before, G.int a0.After, G.int a0.Notice, G.int a0.Share, G.sl 1 (List.map cStr a0.Causes), G.int a0.Off, G.int a0.Run], G.sl 3 (List.map S151.c a1), G.sl 3 (List.map S151.c a2)] 3 1 (List.map cInt R) := by
  unfold s54 at hR
  refine conN_of_aw Tryz.func54 rfl rfl fun w0 M0 => ?_
  refine len_sl (f := S151.c) (l := a1) 1 rfl fun hla1 => ?_
  refine len_sl (f := S151.c) (l := a2) 2 rfl fun hla2 => ?_
  refine aw_seq ?_
  refine aw_region [.p, .w] ?_
  refine st rfl rfl (eff_box rfl rfl) rfl ?_
  refine st_w rfl rfl (eff_nilL 6 3 1 rfl rfl rfl) rfl ?_
  refine st_nil ?_
  refine aw_seq ?_
  obtain ⟨r1, br1, hR⟩ := bindO_inv hR
  refine aw_region [.p, .p, .p, .p, .p] ?_
  refine st rfl rfl (eff_loadA rfl ty29 rfl rfl rfl) rfl ?_
  refine st rfl rfl (eff_moveg rfl rfl) rfl ?_
  refine st rfl rfl (eff_moveg rfl rfl) rfl ?_
  refine st rfl rfl (eff_call rfl K120 rfl (c120 a0 a1 a2 (by first | assumption | omega | (simp [copyL_len]; omega)) (by first | assumption | omega | (simp [copyL_len]; omega)) br1) (ag_cons rfl (ag_cons rfl (ag_cons rfl ag_nil)))) rfl ?_
  refine st rfl rfl (eff_assigng rfl rfl) rfl ?_
  refine st_nil ?_
  refine aw_seq ?_
  refine aw_region [.w] ?_
  refine st_w rfl rfl (eff_nilL 8 3 1 rfl rfl rfl) rfl ?_
  refine st_nil ?_
  refine aw_seq ?_
  refine aw_seq ?_
  refine aw_region [.p] ?_
  refine st rfl rfl (eff_assigng rfl rfl) rfl ?_
  refine st_nil ?_
  refine aw_block ?_
  refine aw_loop_g (γ := Nat × (List S151) × (List Int)) (fun g => ([(2, .g (G.sl 3 (List.map S151.c a2))), (7, .g (G.sl 2 (List.map S154.c r1))), (8, .osl 8 1 0 (List.length g.2.2)), (9, .g (G.int ((g.1 : Nat) : Int)))], [(8, .arr 3 1 (List.map cInt g.2.2))])) (fun g => g.2.2.length ≤ g.1 ∧ a2.drop g.1 = g.2.1 ∧ s54_l1 r1 g.2.1 g.1 g.2.2 = some R) (fun g => List.length g.2.1) ⟨rfl, (0, a2, []), ⟨rfl, rfl, rfl, rfl, trivial⟩, ⟨rfl, trivial⟩, rfl, ⟨(by first | (simp; done) | (simp; omega)), rfl, hR⟩, trivial⟩ ?_
  · rintro ⟨k4, t6, x2⟩ ⟨iv1_0, hd, hR⟩
    replace hd : a2.drop k4 = t6 := hd
    replace hR : s54_l1 r1 t6 k4 x2 = some R := hR
    replace iv1_0 : x2.length ≤ k4 := iv1_0
    refine aw_seq ?_
    refine aw_seq ?_
    refine aw_region [.p, .p, .p, .p] ?_
    refine st rfl rfl (eff_moveg rfl rfl) rfl ?_
    refine st rfl rfl (eff_moveg rfl rfl) rfl ?_
    refine st rfl rfl (eff_lenM (f := S151.c) (l := a2) rfl Tryz.underlying32 rfl) rfl ?_
    refine st rfl rfl (eff_lss rfl rfl rfl) rfl ?_
    refine st_nil ?_
    refine len_sl (f := S151.c) (l := a2) 2 rfl fun hlz1 => ?_
    refine aw_cond _ rfl (fun h1 => ?_) (fun h1 => ?_)
    · replace h1 : (decide (((k4 : Nat) : Int) < (List.length a2 : Int))) = true := h1
      obtain ⟨y5, t6, rfl, hx1, hd⟩ := drop_cons hd (decT h1)
      replace h1 := decT h1
      rw [s54_l1] at hR
      try dsimp only at hR
      refine aw_skip ?_
      refine aw_cut_g (γ := (List Int)) (fun g => ([(2, .g (G.sl 3 (List.map S151.c a2))), (7, .g (G.sl 2 (List.map S154.c r1))), (8, .osl 8 1 0 (List.length g)), (9, .g (G.int ((k4 : Nat) : Int)))], [(8, .arr 3 1 (List.map cInt g))])) (fun g => g.length ≤ k4 + 1 ∧ s54_j1 (fun k_ z0_ => s54_l1 r1 t6 k_ z0_) k4 g = some R) ?_ ?_
      · refine aw_block ?_
        refine aw_seq ?_
        refine aw_region [.p] ?_
        refine st rfl rfl (eff_assigng rfl rfl) rfl ?_
        refine st_nil ?_
        refine aw_seq ?_
        refine aw_seq ?_
        refine aw_region [.p] ?_
        refine st rfl rfl (eff_assigng rfl rfl) rfl ?_
        refine st_nil ?_
        refine aw_block ?_
        refine aw_loop_g (γ := Nat × (List S154) × Bool) (fun g => ([(2, .g (G.sl 3 (List.map S151.c a2))), (7, .g (G.sl 2 (List.map S154.c r1))), (8, .osl 8 1 0 (List.length x2)), (9, .g (G.int ((k4 : Nat) : Int))), (10, .g (G.bool g.2.2)), (11, .g (G.int ((g.1 : Nat) : Int)))], [(8, .arr 3 1 (List.map cInt x2))])) (fun g => r1.drop g.1 = g.2.1 ∧ s54_l2 (fun k_ z0_ => s54_l1 r1 t6 k_ z0_) x2 k4 g.2.1 g.1 g.2.2 = some R) (fun g => List.length g.2.1) ⟨rfl, (0, r1, false), ⟨rfl, rfl, rfl, rfl, rfl, rfl, trivial⟩, ⟨rfl, trivial⟩, rfl, ⟨rfl, hR⟩, trivial⟩ ?_
        · rintro ⟨k10, t12, x8⟩ ⟨hd2, hR⟩
          replace hd2 : r1.drop k10 = t12 := hd2
          replace hR : s54_l2 (fun k_ z0_ => s54_l1 r1 t6 k_ z0_) x2 k4 t12 k10 x8 = some R := hR
          refine aw_seq ?_
          refine aw_seq ?_
          refine aw_region [.p, .p, .p, .p] ?_
          refine st rfl rfl (eff_moveg rfl rfl) rfl ?_
          refine st rfl rfl (eff_moveg rfl rfl) rfl ?_
          refine st rfl rfl (eff_lenM (f := S154.c) (l := r1) rfl Tryz.underlying89 rfl) rfl ?_
          refine st rfl rfl (eff_lss rfl rfl rfl) rfl ?_
          refine st_nil ?_
          refine len_sl (f := S154.c) (l := r1) 7 rfl fun hlz2 => ?_
          refine aw_cond _ rfl (fun h3 => ?_) (fun h3 => ?_)
          · replace h3 : (decide (((k10 : Nat) : Int) < (List.length r1 : Int))) = true := h3
            obtain ⟨y11, t12, rfl, hx2, hd2⟩ := drop_cons hd2 (decT h3)
            replace h3 := decT h3
            rw [s54_l2] at hR
            try dsimp only at hR
            refine aw_skip ?_
            refine aw_seq ?_
            refine aw_block ?_
            refine aw_region [.p, .p, .p, .p, .p, .p, .p, .p, .p, .p, .p] ?_
            refine st rfl rfl (eff_moveg rfl rfl) rfl ?_
            refine st rfl rfl (eff_moveg rfl rfl) rfl ?_
            refine st_g rfl rfl rfl (gb_bool _ _) (fun h => eff_moveg rfl rfl) rfl ?_
            refine st_g rfl rfl rfl (gb_bool _ _) (fun h => eff_moveg rfl rfl) rfl ?_
            refine st_g rfl rfl rfl (gb_bool _ _) (fun h => eff_ix (f := S154.c) (l := r1) (a := y11) rfl Tryz.underlying89 ty158 (gd h rfl) (gd h rfl) (Int.natCast_nonneg _) hx2) rfl ?_
            refine st_g rfl rfl rfl (gb_bool _ _) (fun h => eff_fieldAddr rfl fl158_1 (gd h rfl)) rfl ?_
            refine st_g rfl rfl rfl (gb_bool _ _) (fun h => eff_load rfl ty3 (gd h rfl)) rfl ?_
            refine st_g rfl rfl rfl (gb_bool _ _) (fun h => eff_moveg rfl rfl) rfl ?_
            refine st_g rfl rfl rfl (gb_bool _ _) (fun h => eff_eql rfl (gd h rfl) (gd h rfl)) rfl ?_
            refine st rfl rfl (eff_or rfl rfl rfl rfl) rfl ?_
            refine st rfl rfl (eff_assigng rfl rfl) rfl ?_
            refine st_nil ?_
            refine aw_region [.p, .p, .p] ?_
            refine st rfl rfl (eff_moveg rfl rfl) rfl ?_
            refine st rfl rfl (eff_add rfl rfl rfl (by unfold I64; omega)) rfl ?_
            refine st rfl rfl (eff_assigng rfl rfl) rfl ?_
            refine st_nil ?_
            exact ⟨rfl, (k10 + 1, t12, x8 || (decide (y11.Record = ((k4 : Nat) : Int)))), ⟨rfl, rfl, rfl, rfl, rfl, rfl, trivial⟩, ⟨rfl, trivial⟩, rfl, ⟨hd2, hR⟩, by simp⟩
          · replace h3 : (decide (((k10 : Nat) : Int) < (List.length r1 : Int))) = false := h3
            obtain rfl := drop_nil hd2 (decF h3)
            rw [s54_l2] at hR
            refine aw_exit ?_
            refine aw_seq ?_
            refine aw_region [.p, .p] ?_
            refine st rfl rfl (eff_moveg rfl rfl) rfl ?_
            refine st rfl rfl (eff_not rfl rfl) rfl ?_
            refine st_nil ?_
            refine aw_cond _ rfl (fun h5 => ?_) (fun h5 => ?_)
            · replace h5 : (!x8) = true := h5
              replace hR := condT hR h5
              try simp only [Bool.or_eq_true, Bool.and_eq_true, Bool.or_eq_false_iff, Bool.and_eq_false_iff, Bool.not_eq_true', Bool.not_eq_false', decide_eq_true_eq, decide_eq_false_iff_not] at h5
              refine aw_region [.p, .p, .p, .k, .p] ?_
              refine st rfl rfl (eff_moveO rfl rfl) rfl ?_
              refine st rfl rfl (eff_moveg rfl rfl) rfl ?_
              refine st rfl rfl (eff_buildSlice rfl Tryz.underlying82 ty3 z3 rfl (ps_cons rfl ps_nil) rfl (by simp []) (by decide)) rfl ?_
              refine st_k rfl rfl (eff_appL (f := cInt) (out := x2) (new := [((k4 : Nat) : Int)]) rfl app82 rfl rfl (src_eq rfl (src_sl (by decide) (by simp []))) (refsN rfl) (by simp; omega)) rfl ?_
              refine st rfl rfl (eff_assignO rfl rfl) rfl ?_
              refine st_nil ?_
              exact ⟨rfl, x2 ++ [((k4 : Nat) : Int)], ⟨rfl, rfl, rfl, rfl, trivial⟩, ⟨rfl, trivial⟩, rfl, ⟨(by first | omega | (dsimp only; omega) | (simp at *; done) | (simp at *; omega)), hR⟩, trivial⟩
            · replace h5 : (!x8) = false := h5
              replace hR := condF hR h5
              try simp only [Bool.or_eq_true, Bool.and_eq_true, Bool.or_eq_false_iff, Bool.and_eq_false_iff, Bool.not_eq_true', Bool.not_eq_false', decide_eq_true_eq, decide_eq_false_iff_not] at h5
              refine aw_skip ?_
              exact ⟨rfl, x2, ⟨rfl, rfl, rfl, rfl, trivial⟩, ⟨rfl, trivial⟩, rfl, ⟨(by first | omega | (dsimp only; omega) | (simp at *; done) | (simp at *; omega)), hR⟩, trivial⟩
      · rintro x7 ⟨jv1_0, hR⟩
        replace jv1_0 : x7.length ≤ k4 + 1 := jv1_0
        replace hR : s54_j1 (fun k_ z0_ => s54_l1 r1 t6 k_ z0_) k4 x7 = some R := hR
        unfold s54_j1 at hR
        refine aw_region [.p, .p, .p] ?_
        refine st rfl rfl (eff_moveg rfl rfl) rfl ?_
        refine st rfl rfl (eff_add rfl rfl rfl (by unfold I64; omega)) rfl ?_
        refine st rfl rfl (eff_assigng rfl rfl) rfl ?_
        refine st_nil ?_
        exact ⟨rfl, (k4 + 1, t6, x7), ⟨rfl, rfl, rfl, rfl, trivial⟩, ⟨rfl, trivial⟩, rfl, ⟨(by first | omega | (dsimp only; omega) | (simp at *; omega)), hd, hR⟩, by simp⟩
    · replace h1 : (decide (((k4 : Nat) : Int) < (List.length a2 : Int))) = false := h1
      obtain rfl := drop_nil hd (decF h1)
      rw [s54_l1] at hR
      refine aw_exit ?_
      refine aw_seq ?_
      refine aw_region [.p, .p] ?_
      refine st rfl rfl (eff_moveO rfl rfl) rfl ?_
      refine st rfl rfl (eff_assignO rfl rfl) rfl ?_
      refine st_nil ?_
      refine aw_ret ?_
      obtain rfl := Option.some.inj hR
      exact doneN_own rfl rfl rfl ((List.length_map ..).trans rfl)
theorem c54 {g : List (Nat × List Value)} (a0 : S23) (a1 : List S151) (a2 : List S151) {R : List Int}  (hb1 : a1.length ≤ 12) (hb2 : a2.length ≤ 12) (hR : s54 a0 a1 a2 = some R) : Con (EG g) 54 [G.agg [G.int a0.Before, G.int a0.After, G.int a0.Notice, G.int a0.Share, G.sl 1 (List.map cStr a0.Causes), G.int a0.Off, G.int a0.Run], G.sl 3 (List.map S151.c a1), G.sl 3 (List.map S151.c a2)] (G.sl 1 (List.map cInt R)) :=
  ConN.con (by decide) (n54 a0 a1 a2 hb1 hb2 hR)

/-- turnroundref09.Misused -/
def s55_j1 (rec1 : Nat → Int → Option Bool) (a0 : S23) (k4 : Nat) (x9 : Int) : Option Bool :=
  (bif decide (a0.Run ≤ x9) then some true else rec1 (k4 + 1) x9)
def s55_l1 (a0 : S23) (a1 : List S151) (a2 : List S151) : List S154 → Nat → Int → Option Bool
  | [], k4, x2 => some false
  | y5 :: t6, k4, x2 => bindO (ixO a2 y5.Record) fun y7 => bindO (ixO a1 y5.Slot) fun y8 => (bif decide (a0.Off < max (IntKind.i64.wrap (y7.Moment - y8.Moment)) (IntKind.i64.wrap (0 - (IntKind.i64.wrap (y7.Moment - y8.Moment))))) then s55_j1 (fun k_ z0_ => s55_l1 a0 a1 a2 t6 k_ z0_) a0 k4 (IntKind.i64.wrap (x2 + 1)) else s55_j1 (fun k_ z0_ => s55_l1 a0 a1 a2 t6 k_ z0_) a0 k4 0)
def s55 (a0 : S23) (a1 : List S151) (a2 : List S151) : Option Bool :=
  bindO (s120 a0 a1 a2) fun r1 => s55_l1 a0 a1 a2 r1 0 0
theorem c55 {g : List (Nat × List Value)} (a0 : S23) (a1 : List S151) (a2 : List S151) {R : Bool}  (hb1 : a1.length ≤ 12) (hb2 : a2.length ≤ 12) (hR : s55 a0 a1 a2 = some R) : Con (EG g) 55 [G.agg [G.int a0.Before, G.int a0.After, G.int a0.Notice, G.int a0.Share, G.sl 1 (List.map cStr a0.Causes), G.int a0.Off, G.int a0.Run], G.sl 3 (List.map S151.c a1), G.sl 3 (List.map S151.c a2)] (G.bool R) := by
  unfold s55 at hR
  refine con_of_aw Tryz.func55 rfl rfl fun w0 M0 => ?_
  refine len_sl (f := S151.c) (l := a1) 1 rfl fun hla1 => ?_
  refine len_sl (f := S151.c) (l := a2) 2 rfl fun hla2 => ?_
  refine aw_seq ?_
  refine aw_region [.p, .p] ?_
  refine st rfl rfl (eff_box rfl rfl) rfl ?_
  refine st rfl rfl (eff_assigng rfl rfl) rfl ?_
  refine st_nil ?_
  refine aw_seq ?_
  obtain ⟨r1, br1, hR⟩ := bindO_inv hR
  refine aw_region [.p, .p, .p, .p, .p] ?_
  refine st rfl rfl (eff_loadA rfl ty29 rfl rfl rfl) rfl ?_
  refine st rfl rfl (eff_moveg rfl rfl) rfl ?_
  refine st rfl rfl (eff_moveg rfl rfl) rfl ?_
  refine st rfl rfl (eff_call rfl K120 rfl (c120 a0 a1 a2 (by first | assumption | omega | (simp [copyL_len]; omega)) (by first | assumption | omega | (simp [copyL_len]; omega)) br1) (ag_cons rfl (ag_cons rfl (ag_cons rfl ag_nil)))) rfl ?_
  refine st rfl rfl (eff_assigng rfl rfl) rfl ?_
  refine st_nil ?_
  refine aw_seq ?_
  refine aw_region [.p] ?_
  refine st rfl rfl (eff_assigng rfl rfl) rfl ?_
  refine st_nil ?_
  refine aw_seq ?_
  refine aw_seq ?_
  refine aw_region [.p] ?_
  refine st rfl rfl (eff_assigng rfl rfl) rfl ?_
  refine st_nil ?_
  refine aw_block ?_
  refine aw_loop_g (γ := Nat × (List S154) × Int) (fun g => ([(1, .g (G.sl 3 (List.map S151.c a1))), (2, .g (G.sl 3 (List.map S151.c a2))), (3, .g (G.ref [G.int a0.Before, G.int a0.After, G.int a0.Notice, G.int a0.Share, G.sl 1 (List.map cStr a0.Causes), G.int a0.Off, G.int a0.Run])), (7, .g (G.sl 2 (List.map S154.c r1))), (8, .g (G.int g.2.2)), (9, .g (G.int ((g.1 : Nat) : Int)))], [])) (fun g => r1.drop g.1 = g.2.1 ∧ s55_l1 a0 a1 a2 g.2.1 g.1 g.2.2 = some R) (fun g => List.length g.2.1) ⟨rfl, (0, r1, 0), ⟨rfl, rfl, rfl, rfl, rfl, rfl, trivial⟩, trivial, rfl, ⟨rfl, hR⟩, trivial⟩ ?_
  · rintro ⟨k4, t6, x2⟩ ⟨hd, hR⟩
    replace hd : r1.drop k4 = t6 := hd
    replace hR : s55_l1 a0 a1 a2 t6 k4 x2 = some R := hR
    refine aw_seq ?_
    refine aw_seq ?_
    refine aw_region [.p, .p, .p, .p] ?_
    refine st rfl rfl (eff_moveg rfl rfl) rfl ?_
    refine st rfl rfl (eff_moveg rfl rfl) rfl ?_
    refine st rfl rfl (eff_lenM (f := S154.c) (l := r1) rfl Tryz.underlying89 rfl) rfl ?_
    refine st rfl rfl (eff_lss rfl rfl rfl) rfl ?_
    refine st_nil ?_
    refine len_sl (f := S154.c) (l := r1) 7 rfl fun hlz1 => ?_
    refine aw_cond _ rfl (fun h1 => ?_) (fun h1 => ?_)
    · replace h1 : (decide (((k4 : Nat) : Int) < (List.length r1 : Int))) = true := h1
      obtain ⟨y5, t6, rfl, hx1, hd⟩ := drop_cons hd (decT h1)
      replace h1 := decT h1
      rw [s55_l1] at hR
      try dsimp only at hR
      refine aw_skip ?_
      refine aw_seq ?_
      refine aw_block ?_
      refine aw_seq ?_
      obtain ⟨y7, by7, hR⟩ := bindO_inv hR
      obtain ⟨y8, by8, hR⟩ := bindO_inv hR
      refine aw_draw [.p, .p, .p, .p, .p, .p, .p, .p, .p, .p, .p, .p, .p, .p, .p, .p, .p, .p, .p, .p] (by kernel_rfl) ?_
      refine st rfl rfl (eff_moveg rfl rfl) rfl ?_
      refine st rfl rfl (eff_moveg rfl rfl) rfl ?_
      refine st rfl rfl (eff_moveg rfl rfl) rfl ?_
      refine st rfl rfl (eff_ix (f := S154.c) (l := r1) (a := y5) rfl Tryz.underlying89 ty158 rfl rfl (Int.natCast_nonneg _) hx1) rfl ?_
      refine st rfl rfl (eff_fieldAddr rfl fl158_1 rfl) rfl ?_
      refine st rfl rfl (eff_load rfl ty3 rfl) rfl ?_
      refine st rfl rfl (eff_ix (f := S151.c) (l := a2) (a := y7) rfl Tryz.underlying32 ty160 rfl rfl (ixO_nn by7) (ixO_get by7)) rfl ?_
      refine st rfl rfl (eff_fieldAddr rfl fl160_1 rfl) rfl ?_
      refine st rfl rfl (eff_load rfl ty3 rfl) rfl ?_
      refine st rfl rfl (eff_moveg rfl rfl) rfl ?_
      refine st rfl rfl (eff_moveg rfl rfl) rfl ?_
      refine st rfl rfl (eff_moveg rfl rfl) rfl ?_
      refine st rfl rfl (eff_ix (f := S154.c) (l := r1) (a := y5) rfl Tryz.underlying89 ty158 rfl rfl (Int.natCast_nonneg _) hx1) rfl ?_
      refine st rfl rfl (eff_fieldAddr rfl fl158_0 rfl) rfl ?_
      refine st rfl rfl (eff_load rfl ty3 rfl) rfl ?_
      refine st rfl rfl (eff_ix (f := S151.c) (l := a1) (a := y8) rfl Tryz.underlying32 ty160 rfl rfl (ixO_nn by8) (ixO_get by8)) rfl ?_
      refine st rfl rfl (eff_fieldAddr rfl fl160_1 rfl) rfl ?_
      refine st rfl rfl (eff_load rfl ty3 rfl) rfl ?_
      refine st rfl rfl (eff_subw rfl rfl rfl) rfl ?_
      refine st rfl rfl (eff_assigng rfl rfl) rfl ?_
      refine st_nil ?_
      refine aw_cut_g (γ := Int) (fun g => ([(1, .g (G.sl 3 (List.map S151.c a1))), (2, .g (G.sl 3 (List.map S151.c a2))), (3, .g (G.ref [G.int a0.Before, G.int a0.After, G.int a0.Notice, G.int a0.Share, G.sl 1 (List.map cStr a0.Causes), G.int a0.Off, G.int a0.Run])), (7, .g (G.sl 2 (List.map S154.c r1))), (8, .g (G.int g)), (9, .g (G.int ((k4 : Nat) : Int)))], [])) (fun g => s55_j1 (fun k_ z0_ => s55_l1 a0 a1 a2 t6 k_ z0_) a0 k4 g = some R) ?_ ?_
      · refine aw_seq ?_
        refine aw_region [.p, .p, .p, .p, .p, .p, .p] ?_
        refine st rfl rfl (eff_moveg rfl rfl) rfl ?_
        refine st rfl rfl (eff_moveg rfl rfl) rfl ?_
        refine st rfl rfl (eff_subw rfl rfl rfl) rfl ?_
        refine st rfl rfl (eff_max rfl rfl rfl) rfl ?_
        refine st rfl rfl (eff_fieldAddr rfl fl29_5 rfl) rfl ?_
        refine st rfl rfl (eff_load rfl ty3 rfl) rfl ?_
        refine st rfl rfl (eff_gtr rfl rfl rfl) rfl ?_
        refine st_nil ?_
        refine aw_cond _ rfl (fun h4 => ?_) (fun h4 => ?_)
        · replace h4 : (decide (a0.Off < max (IntKind.i64.wrap (y7.Moment - y8.Moment)) (IntKind.i64.wrap (0 - (IntKind.i64.wrap (y7.Moment - y8.Moment)))))) = true := h4
          replace hR := condT hR h4
          try simp only [Bool.or_eq_true, Bool.and_eq_true, Bool.or_eq_false_iff, Bool.and_eq_false_iff, Bool.not_eq_true', Bool.not_eq_false', decide_eq_true_eq, decide_eq_false_iff_not] at h4
          refine aw_region [.p, .p, .p] ?_
          refine st rfl rfl (eff_moveg rfl rfl) rfl ?_
          refine st rfl rfl (eff_addw rfl rfl rfl) rfl ?_
          refine st rfl rfl (eff_assigng rfl rfl) rfl ?_
          refine st_nil ?_
          exact ⟨rfl, IntKind.i64.wrap (x2 + 1), ⟨rfl, rfl, rfl, rfl, rfl, rfl, trivial⟩, trivial, rfl, hR, trivial⟩
        · replace h4 : (decide (a0.Off < max (IntKind.i64.wrap (y7.Moment - y8.Moment)) (IntKind.i64.wrap (0 - (IntKind.i64.wrap (y7.Moment - y8.Moment)))))) = false := h4
          replace hR := condF hR h4
          try simp only [Bool.or_eq_true, Bool.and_eq_true, Bool.or_eq_false_iff, Bool.and_eq_false_iff, Bool.not_eq_true', Bool.not_eq_false', decide_eq_true_eq, decide_eq_false_iff_not] at h4
          refine aw_region [.p] ?_
          refine st rfl rfl (eff_assigng rfl rfl) rfl ?_
          refine st_nil ?_
          exact ⟨rfl, 0, ⟨rfl, rfl, rfl, rfl, rfl, rfl, trivial⟩, trivial, rfl, hR, trivial⟩
      · rintro x9 hR
        replace hR : s55_j1 (fun k_ z0_ => s55_l1 a0 a1 a2 t6 k_ z0_) a0 k4 x9 = some R := hR
        unfold s55_j1 at hR
        refine aw_seq ?_
        refine aw_region [.p, .p, .p, .p] ?_
        refine st rfl rfl (eff_moveg rfl rfl) rfl ?_
        refine st rfl rfl (eff_fieldAddr rfl fl29_6 rfl) rfl ?_
        refine st rfl rfl (eff_load rfl ty3 rfl) rfl ?_
        refine st rfl rfl (eff_geq rfl rfl rfl) rfl ?_
        refine st_nil ?_
        refine aw_cond _ rfl (fun h3 => ?_) (fun h3 => ?_)
        · replace h3 : (decide (a0.Run ≤ x9)) = true := h3
          replace hR := condT hR h3
          try simp only [Bool.or_eq_true, Bool.and_eq_true, Bool.or_eq_false_iff, Bool.and_eq_false_iff, Bool.not_eq_true', Bool.not_eq_false', decide_eq_true_eq, decide_eq_false_iff_not] at h3
          refine aw_seq ?_
          refine aw_region [.p] ?_
          refine st rfl rfl (eff_assigng rfl rfl) rfl ?_
          refine st_nil ?_
          refine aw_ret ?_
          obtain rfl := Option.some.inj hR
          exact res_c rfl (rv_g rfl)
        · replace h3 : (decide (a0.Run ≤ x9)) = false := h3
          replace hR := condF hR h3
          try simp only [Bool.or_eq_true, Bool.and_eq_true, Bool.or_eq_false_iff, Bool.and_eq_false_iff, Bool.not_eq_true', Bool.not_eq_false', decide_eq_true_eq, decide_eq_false_iff_not] at h3
          refine aw_skip ?_
          refine aw_region [.p, .p, .p] ?_
          refine st rfl rfl (eff_moveg rfl rfl) rfl ?_
          refine st rfl rfl (eff_add rfl rfl rfl (by unfold I64; omega)) rfl ?_
          refine st rfl rfl (eff_assigng rfl rfl) rfl ?_
          refine st_nil ?_
          exact ⟨rfl, (k4 + 1, t6, x9), ⟨rfl, rfl, rfl, rfl, rfl, rfl, trivial⟩, trivial, rfl, ⟨hd, hR⟩, by simp⟩
    · replace h1 : (decide (((k4 : Nat) : Int) < (List.length r1 : Int))) = false := h1
      obtain rfl := drop_nil hd (decF h1)
      rw [s55_l1] at hR
      refine aw_exit ?_
      refine aw_seq ?_
      refine aw_region [.p] ?_
      refine st rfl rfl (eff_assigng rfl rfl) rfl ?_
      refine st_nil ?_
      refine aw_ret ?_
      obtain rfl := Option.some.inj hR
      exact res_c rfl (rv_g rfl)
end Go.Sim

set_option linter.unusedSimpArgs false
set_option linter.unusedVariables false
set_option maxRecDepth 10000
namespace Go.Sim
open Go.Proofs


/-- turnroundlaw09.UseMatches -/
noncomputable def s8 (a0 : S23) (a1 : List S151) (a2 : List S151) : Option Bool :=
  (bif (((!s16) || (!(s17 (s18 a0)))) || (!(s19 (s20 a1) 8))) || (!(s19 (s20 a2) 8)) then some s16 else bindO (s44 a0 a1 a2) fun r1 => bindO (s45 a0 a1 a2) fun r2 => bindO (s46 a0 a1 a2) fun r3 => bindO (s47 a0 a1 a2) fun r4 => (bif decide ((s48 a0 a1 a2) ≠ 0) then bindO (bif (decide ((List.length r1.1 : Int) = 0)) && (decide (r1.2 = (s48 a0 a1 a2))) then s49 r2.1 r2.2 (s48 a0 a1 a2) [] else some default) fun r5 => bindO (bif ((decide ((List.length r1.1 : Int) = 0)) && (decide (r1.2 = (s48 a0 a1 a2)))) && r5 then s49 r3.1 r3.2 (s48 a0 a1 a2) [] else some default) fun r6 => some ((((((decide ((List.length r1.1 : Int) = 0)) && (decide (r1.2 = (s48 a0 a1 a2)))) && r5) && r6) && (!r4.1)) && (decide (r4.2 = (s48 a0 a1 a2)))) else bindO (bif decide (r1.2 = 0) then s52 (s18 a0) (s20 a1) (s20 a2) else some default) fun r7 => bindO (bif decide (r1.2 = 0) then s50 (s51 r1.1) r7 else some default) fun r8 => bindO (bif (decide (r1.2 = 0)) && r8 then s53 (s18 a0) (s20 a1) (s20 a2) else some default) fun r9 => bindO (bif (decide (r1.2 = 0)) && r8 then s49 r2.1 r2.2 0 r9 else some default) fun r10 => bindO (bif ((decide (r1.2 = 0)) && r8) && r10 then s54 (s18 a0) (s20 a1) (s20 a2) else some default) fun r11 => bindO (bif ((decide (r1.2 = 0)) && r8) && r10 then s49 r3.1 r3.2 0 r11 else some default) fun r12 => bindO (bif ((((decide (r1.2 = 0)) && r8) && r10) && r12) && (decide (r4.2 = 0)) then s55 (s18 a0) (s20 a1) (s20 a2) else some default) fun r13 => some ((((((decide (r1.2 = 0)) && r8) && r10) && r12) && (decide (r4.2 = 0))) && (r4.1 == r13))))
theorem c8 (a0 : S23) (a1 : List S151) (a2 : List S151) {R : Bool}  (hb0 : a1.length * 40 ≤ 140737488351232) (hb1 : a2.length * 40 ≤ 140737488351232) (hR : s8 a0 a1 a2 = some R) : Con (EG glT) 8 [G.agg [G.int a0.Before, G.int a0.After, G.int a0.Notice, G.int a0.Share, G.sl 1 (List.map cStr a0.Causes), G.int a0.Off, G.int a0.Run], G.sl 3 (List.map S151.c a1), G.sl 3 (List.map S151.c a2)] (G.bool R) := by
  unfold s8 at hR
  refine con_of_aw Tryz.func8 rfl rfl fun w0 M0 => ?_
  refine len_sl (f := S151.c) (l := a1) 1 rfl fun hla1 => ?_
  refine len_sl (f := S151.c) (l := a2) 2 rfl fun hla2 => ?_
  refine aw_seq ?_
  refine aw_region [.p, .p] ?_
  refine st rfl rfl (eff_box rfl rfl) rfl ?_
  refine st rfl rfl (eff_assigng rfl rfl) rfl ?_
  refine st_nil ?_
  refine aw_seq ?_
  refine aw_seq ?_
  refine aw_region [.p, .p, .p, .p, .p, .p, .p, .p, .p, .p, .p, .p, .p, .p, .p, .p, .p, .p, .p, .p] ?_
  refine st rfl rfl (eff_call rfl K16 rfl (c16) ag_nil) rfl ?_
  refine st rfl rfl (eff_not rfl rfl) rfl ?_
  refine st rfl rfl (eff_moveg rfl rfl) rfl ?_
  refine st_g rfl rfl rfl (gb_bool _ _) (fun h => eff_loadA rfl ty24 rfl rfl rfl) rfl ?_
  refine st_g rfl rfl rfl (gb_bool _ _) (fun h => eff_call rfl K18 rfl (c18 a0) (ag_cons (gd h rfl) ag_nil)) rfl ?_
  refine st_g rfl rfl rfl (gb_bool _ _) (fun h => eff_call rfl K17 rfl (c17 (s18 a0)) (ag_cons (gd h rfl) ag_nil)) rfl ?_
  refine st_g rfl rfl rfl (gb_bool _ _) (fun h => eff_not rfl (gd h rfl)) rfl ?_
  refine st rfl rfl (eff_or rfl rfl rfl rfl) rfl ?_
  refine st rfl rfl (eff_moveg rfl rfl) rfl ?_
  refine st_g rfl rfl rfl (gb_bool _ _) (fun h => eff_moveg rfl rfl) rfl ?_
  refine st_g rfl rfl rfl (gb_bool _ _) (fun h => eff_call rfl K20 rfl (c20 a1 (by omega)) (ag_cons (gd h rfl) ag_nil)) rfl ?_
  refine st_g rfl rfl rfl (gb_bool _ _) (fun h => eff_call rfl K19 rfl (c19 (s20 a1) 8) (ag_cons (gd h rfl) (ag_cons rfl ag_nil))) rfl ?_
  refine st_g rfl rfl rfl (gb_bool _ _) (fun h => eff_not rfl (gd h rfl)) rfl ?_
  refine st rfl rfl (eff_or rfl rfl rfl rfl) rfl ?_
  refine st rfl rfl (eff_moveg rfl rfl) rfl ?_
  refine st_g rfl rfl rfl (gb_bool _ _) (fun h => eff_moveg rfl rfl) rfl ?_
  refine st_g rfl rfl rfl (gb_bool _ _) (fun h => eff_call rfl K20 rfl (c20 a2 (by omega)) (ag_cons (gd h rfl) ag_nil)) rfl ?_
  refine st_g rfl rfl rfl (gb_bool _ _) (fun h => eff_call rfl K19 rfl (c19 (s20 a2) 8) (ag_cons (gd h rfl) (ag_cons rfl ag_nil))) rfl ?_
  refine st_g rfl rfl rfl (gb_bool _ _) (fun h => eff_not rfl (gd h rfl)) rfl ?_
  refine st rfl rfl (eff_or rfl rfl rfl rfl) rfl ?_
  refine st_nil ?_
  refine aw_cond _ rfl (fun h1 => ?_) (fun h1 => ?_)
  · replace h1 : ((((!s16) || (!(s17 (s18 a0)))) || (!(s19 (s20 a1) 8))) || (!(s19 (s20 a2) 8))) = true := h1
    replace hR := condT hR h1
    try simp only [Bool.or_eq_true, Bool.and_eq_true, Bool.or_eq_false_iff, Bool.and_eq_false_iff, Bool.not_eq_true', Bool.not_eq_false', decide_eq_true_eq, decide_eq_false_iff_not] at h1
    refine aw_seq ?_
    refine aw_region [.p, .p] ?_
    refine st rfl rfl (eff_call rfl K16 rfl (c16) ag_nil) rfl ?_
    refine st rfl rfl (eff_assigng rfl rfl) rfl ?_
    refine st_nil ?_
    refine aw_ret ?_
    obtain rfl := Option.some.inj hR
    exact res_c rfl (rv_g rfl)
  · replace h1 : ((((!s16) || (!(s17 (s18 a0)))) || (!(s19 (s20 a1) 8))) || (!(s19 (s20 a2) 8))) = false := h1
    replace hR := condF hR h1
    try simp only [Bool.or_eq_true, Bool.and_eq_true, Bool.or_eq_false_iff, Bool.and_eq_false_iff, Bool.not_eq_true', Bool.not_eq_false', decide_eq_true_eq, decide_eq_false_iff_not] at h1
    have hs := short8 (a0 := a0) h1
    refine aw_skip ?_
    refine aw_seq ?_
    obtain ⟨r1, br1, hR⟩ := bindO_inv hR
    refine aw_region [.p, .p, .p, .p, .p, .p, .p, .p, .p] ?_
    refine st rfl rfl (eff_loadA rfl ty24 rfl rfl rfl) rfl ?_
    refine st rfl rfl (eff_moveg rfl rfl) rfl ?_
    refine st rfl rfl (eff_moveg rfl rfl) rfl ?_
    refine st rfl rfl (eff_call rfl K44 rfl (c44 a0 a1 a2 (by first | assumption | omega | (simp [copyL_len]; omega)) br1) (ag_cons rfl (ag_cons rfl (ag_cons rfl ag_nil)))) rfl ?_
    refine st rfl rfl (eff_moveg rfl rfl) rfl ?_
    refine st rfl rfl (eff_extract rfl rfl rfl) rfl ?_
    refine st rfl rfl (eff_extract rfl rfl rfl) rfl ?_
    refine st rfl rfl (eff_assigng rfl rfl) rfl ?_
    refine st rfl rfl (eff_assigng rfl rfl) rfl ?_
    refine st_nil ?_
    have hm44 := len44 hs br1
    refine aw_seq ?_
    obtain ⟨r2, br2, hR⟩ := bindO_inv hR
    refine aw_region [.p, .p, .p, .p, .p, .p, .p, .p, .p] ?_
    refine st rfl rfl (eff_loadA rfl ty24 rfl rfl rfl) rfl ?_
    refine st rfl rfl (eff_moveg rfl rfl) rfl ?_
    refine st rfl rfl (eff_moveg rfl rfl) rfl ?_
    refine st rfl rfl (eff_call rfl K45 rfl (c45 a0 a1 a2 (by first | assumption | omega | (simp [copyL_len]; omega)) br2) (ag_cons rfl (ag_cons rfl (ag_cons rfl ag_nil)))) rfl ?_
    refine st rfl rfl (eff_moveg rfl rfl) rfl ?_
    refine st rfl rfl (eff_extract rfl rfl rfl) rfl ?_
    refine st rfl rfl (eff_extract rfl rfl rfl) rfl ?_
    refine st rfl rfl (eff_assigng rfl rfl) rfl ?_
    refine st rfl rfl (eff_assigng rfl rfl) rfl ?_
    refine st_nil ?_
    refine aw_seq ?_
    obtain ⟨r3, br3, hR⟩ := bindO_inv hR
    refine aw_region [.p, .p, .p, .p, .p, .p, .p, .p, .p] ?_
    refine st rfl rfl (eff_loadA rfl ty24 rfl rfl rfl) rfl ?_
    refine st rfl rfl (eff_moveg rfl rfl) rfl ?_
    refine st rfl rfl (eff_moveg rfl rfl) rfl ?_
    refine st rfl rfl (eff_call rfl K46 rfl (c46 a0 a1 a2 (by first | assumption | omega | (simp [copyL_len]; omega)) br3) (ag_cons rfl (ag_cons rfl (ag_cons rfl ag_nil)))) rfl ?_
    refine st rfl rfl (eff_moveg rfl rfl) rfl ?_
    refine st rfl rfl (eff_extract rfl rfl rfl) rfl ?_
    refine st rfl rfl (eff_extract rfl rfl rfl) rfl ?_
    refine st rfl rfl (eff_assigng rfl rfl) rfl ?_
    refine st rfl rfl (eff_assigng rfl rfl) rfl ?_
    refine st_nil ?_
    refine aw_seq ?_
    obtain ⟨r4, br4, hR⟩ := bindO_inv hR
    refine aw_region [.p, .p, .p, .p, .p, .p, .p, .p, .p] ?_
    refine st rfl rfl (eff_loadA rfl ty24 rfl rfl rfl) rfl ?_
    refine st rfl rfl (eff_moveg rfl rfl) rfl ?_
    refine st rfl rfl (eff_moveg rfl rfl) rfl ?_
    refine st rfl rfl (eff_call rfl K47 rfl (c47 a0 a1 a2 (by first | assumption | omega | (simp [copyL_len]; omega)) br4) (ag_cons rfl (ag_cons rfl (ag_cons rfl ag_nil)))) rfl ?_
    refine st rfl rfl (eff_moveg rfl rfl) rfl ?_
    refine st rfl rfl (eff_extract rfl rfl rfl) rfl ?_
    refine st rfl rfl (eff_extract rfl rfl rfl) rfl ?_
    refine st rfl rfl (eff_assigng rfl rfl) rfl ?_
    refine st rfl rfl (eff_assigng rfl rfl) rfl ?_
    refine st_nil ?_
    refine aw_seq ?_
    refine aw_region [.p, .p, .p, .p, .p] ?_
    refine st rfl rfl (eff_loadA rfl ty24 rfl rfl rfl) rfl ?_
    refine st rfl rfl (eff_moveg rfl rfl) rfl ?_
    refine st rfl rfl (eff_moveg rfl rfl) rfl ?_
    refine st rfl rfl (eff_call rfl K48 rfl (c48 a0 a1 a2 (by first | assumption | omega | (simp [copyL_len]; omega)) (by first | assumption | omega | (simp [copyL_len]; omega))) (ag_cons rfl (ag_cons rfl (ag_cons rfl ag_nil)))) rfl ?_
    refine st rfl rfl (eff_assigng rfl rfl) rfl ?_
    refine st_nil ?_
    refine aw_seq ?_
    refine aw_seq ?_
    refine aw_region [.p, .p] ?_
    refine st rfl rfl (eff_moveg rfl rfl) rfl ?_
    refine st rfl rfl (eff_neq rfl rfl rfl) rfl ?_
    refine st_nil ?_
    refine aw_cond _ rfl (fun h2 => ?_) (fun h2 => ?_)
    · replace h2 : (decide ((s48 a0 a1 a2) ≠ 0)) = true := h2
      replace hR := condT hR h2
      try simp only [Bool.or_eq_true, Bool.and_eq_true, Bool.or_eq_false_iff, Bool.and_eq_false_iff, Bool.not_eq_true', Bool.not_eq_false', decide_eq_true_eq, decide_eq_false_iff_not] at h2
      refine aw_seq ?_
      obtain ⟨r5, br5, hR⟩ := bindO_inv hR
      obtain ⟨r6, br6, hR⟩ := bindO_inv hR
      refine aw_region [.p, .p, .p, .p, .p, .p, .p, .p, .p, .p, .p, .p, .p, .p, .p, .p, .p, .p, .p, .p, .p, .p, .p, .p, .p, .p, .p, .p, .p, .p] ?_
      refine st rfl rfl (eff_moveg rfl rfl) rfl ?_
      refine st rfl rfl (eff_lenM (f := S154.c) (l := r1.1) rfl Tryz.underlying79 rfl) rfl ?_
      refine st rfl rfl (eff_eql rfl rfl rfl) rfl ?_
      refine st rfl rfl (eff_moveg rfl rfl) rfl ?_
      refine st_g rfl rfl rfl (gb_bool _ _) (fun h => eff_moveg rfl rfl) rfl ?_
      refine st_g rfl rfl rfl (gb_bool _ _) (fun h => eff_moveg rfl rfl) rfl ?_
      refine st_g rfl rfl rfl (gb_bool _ _) (fun h => eff_eql rfl (gd h rfl) (gd h rfl)) rfl ?_
      refine st rfl rfl (eff_and rfl rfl rfl rfl) rfl ?_
      refine st rfl rfl (eff_moveg rfl rfl) rfl ?_
      refine st_g rfl rfl rfl (gb_bool _ _) (fun h => eff_moveg rfl rfl) rfl ?_
      refine st_g rfl rfl rfl (gb_bool _ _) (fun h => eff_moveg rfl rfl) rfl ?_
      refine st_g rfl rfl rfl (gb_bool _ _) (fun h => eff_moveg rfl rfl) rfl ?_
      refine st_g rfl rfl rfl (gb_bool _ _) (fun h => eff_callS rfl K49 rfl (c49 r2.1 r2.2 (s48 a0 a1 a2) [] (condT1 br5 h)) (sa_cons (gd h rfl) (sa_cons (gd h rfl) (sa_cons (gd h rfl) (sa_nilS rfl sa_nil))))) rfl ?_
      refine st rfl rfl (eff_and rfl rfl rfl rfl) rfl ?_
      refine st rfl rfl (eff_moveg rfl rfl) rfl ?_
      refine st_g rfl rfl rfl (gb_bool _ _) (fun h => eff_moveg rfl rfl) rfl ?_
      refine st_g rfl rfl rfl (gb_bool _ _) (fun h => eff_moveg rfl rfl) rfl ?_
      refine st_g rfl rfl rfl (gb_bool _ _) (fun h => eff_moveg rfl rfl) rfl ?_
      refine st_g rfl rfl rfl (gb_bool _ _) (fun h => eff_callS rfl K49 rfl (c49 r3.1 r3.2 (s48 a0 a1 a2) [] (condT1 br6 h)) (sa_cons (gd h rfl) (sa_cons (gd h rfl) (sa_cons (gd h rfl) (sa_nilS rfl sa_nil))))) rfl ?_
      refine st rfl rfl (eff_and rfl rfl rfl rfl) rfl ?_
      refine st rfl rfl (eff_moveg rfl rfl) rfl ?_
      refine st_g rfl rfl rfl (gb_bool _ _) (fun h => eff_moveg rfl rfl) rfl ?_
      refine st_g rfl rfl rfl (gb_bool _ _) (fun h => eff_not rfl (gd h rfl)) rfl ?_
      refine st rfl rfl (eff_and rfl rfl rfl rfl) rfl ?_
      refine st rfl rfl (eff_moveg rfl rfl) rfl ?_
      refine st_g rfl rfl rfl (gb_bool _ _) (fun h => eff_moveg rfl rfl) rfl ?_
      refine st_g rfl rfl rfl (gb_bool _ _) (fun h => eff_moveg rfl rfl) rfl ?_
      refine st_g rfl rfl rfl (gb_bool _ _) (fun h => eff_eql rfl (gd h rfl) (gd h rfl)) rfl ?_
      refine st rfl rfl (eff_and rfl rfl rfl rfl) rfl ?_
      refine st rfl rfl (eff_assigng rfl rfl) rfl ?_
      refine st_nil ?_
      refine aw_ret ?_
      obtain rfl := Option.some.inj hR
      exact res_c rfl (rv_g rfl)
    · replace h2 : (decide ((s48 a0 a1 a2) ≠ 0)) = false := h2
      replace hR := condF hR h2
      try simp only [Bool.or_eq_true, Bool.and_eq_true, Bool.or_eq_false_iff, Bool.and_eq_false_iff, Bool.not_eq_true', Bool.not_eq_false', decide_eq_true_eq, decide_eq_false_iff_not] at h2
      obtain ⟨hz1, hz2⟩ := both_ok hs h2
      refine aw_skip ?_
      refine aw_seq ?_
      refine aw_region [.p, .p, .p, .p, .p, .p, .w, .w, .p, .p] ?_
      refine st rfl rfl (eff_loadA rfl ty24 rfl rfl rfl) rfl ?_
      refine st rfl rfl (eff_call rfl K18 rfl (c18 a0) (ag_cons rfl ag_nil)) rfl ?_
      refine st rfl rfl (eff_moveg rfl rfl) rfl ?_
      refine st rfl rfl (eff_call rfl K20 rfl (c20 a1 (by omega)) (ag_cons rfl ag_nil)) rfl ?_
      refine st rfl rfl (eff_moveg rfl rfl) rfl ?_
      refine st rfl rfl (eff_call rfl K20 rfl (c20 a2 (by omega)) (ag_cons rfl ag_nil)) rfl ?_
      refine st_w rfl rfl (eff_alloc 16 rfl z29 rfl rfl) rfl ?_
      refine st_wn rfl rfl (eff_store (tv := .g (G.agg [G.int ((s18 a0).Before), G.int ((s18 a0).After), G.int ((s18 a0).Notice), G.int ((s18 a0).Share), G.sl 1 (List.map cStr ((s18 a0).Causes)), G.int ((s18 a0).Off), G.int ((s18 a0).Run)])) rfl ty29 rfl rfl rfl rfl rfl) ?_
      refine st rfl rfl (eff_assigng rfl rfl) rfl ?_
      refine st rfl rfl (eff_assigng rfl rfl) rfl ?_
      refine st_nil ?_
      refine aw_seq ?_
      obtain ⟨r7, br7, hR⟩ := bindO_inv hR
      obtain ⟨r8, br8, hR⟩ := bindO_inv hR
      obtain ⟨r9, br9, hR⟩ := bindO_inv hR
      obtain ⟨r10, br10, hR⟩ := bindO_inv hR
      obtain ⟨r11, br11, hR⟩ := bindO_inv hR
      obtain ⟨r12, br12, hR⟩ := bindO_inv hR
      obtain ⟨r13, br13, hR⟩ := bindO_inv hR
      refine aw_draw [.p, .p, .p, .p, .p, .r, .p, .p, .p, .p, .p, .p, .p, .p, .r, .p, .p, .p, .p, .p, .p, .p, .p, .r, .p, .p, .p, .p, .p, .p, .p, .p, .p, .p, .p, .r, .p, .p, .p, .p, .p, .p] (by kernel_rfl) ?_
      refine st rfl rfl (eff_moveg rfl rfl) rfl ?_
      refine st rfl rfl (eff_eql rfl rfl rfl) rfl ?_
      refine st rfl rfl (eff_moveg rfl rfl) rfl ?_
      refine st_g rfl rfl rfl (gb_bool _ _) (fun h => eff_moveg rfl rfl) rfl ?_
      refine st_g rfl rfl rfl (gb_bool _ _) (fun h => eff_call rfl K51 rfl (c51 r1.1 (by first | assumption | omega | (simp [copyL_len]; omega))) (ag_cons (gd h rfl) ag_nil)) rfl ?_
      refine st_gr rfl rfl rfl (gb_bool _ _) (fun h => eff_loadOA rfl ty29 rfl rfl rfl rfl) rfl ?_
      refine st_g rfl rfl rfl (gb_bool _ _) (fun h => eff_moveg rfl rfl) rfl ?_
      refine st_g rfl rfl rfl (gb_bool _ _) (fun h => eff_moveg rfl rfl) rfl ?_
      refine st_g rfl rfl rfl (gb_bool _ _) (fun h => eff_call rfl K52 rfl (c52 (s18 a0) (s20 a1) (s20 a2) (by first | assumption | omega | (simp [copyL_len]; omega)) (by first | assumption | omega | (simp [copyL_len]; omega)) (condT1 br7 h)) (ag_cons (gd h rfl) (ag_cons (gd h rfl) (ag_cons (gd h rfl) ag_nil)))) rfl ?_
      refine st_g rfl rfl rfl (gb_bool _ _) (fun h => eff_call rfl K50 rfl (c50 (s51 r1.1) r7 (condT1 br8 h)) (ag_cons (gd h rfl) (ag_cons (gd h rfl) ag_nil))) rfl ?_
      refine st rfl rfl (eff_and rfl rfl rfl rfl) rfl ?_
      refine st rfl rfl (eff_moveg rfl rfl) rfl ?_
      refine st_g rfl rfl rfl (gb_bool _ _) (fun h => eff_moveg rfl rfl) rfl ?_
      refine st_g rfl rfl rfl (gb_bool _ _) (fun h => eff_moveg rfl rfl) rfl ?_
      refine st_gr rfl rfl rfl (gb_bool _ _) (fun h => eff_loadOA rfl ty29 rfl rfl rfl rfl) rfl ?_
      refine st_g rfl rfl rfl (gb_bool _ _) (fun h => eff_moveg rfl rfl) rfl ?_
      refine st_g rfl rfl rfl (gb_bool _ _) (fun h => eff_moveg rfl rfl) rfl ?_
      refine st_g rfl rfl rfl (gb_bool _ _) (fun h => eff_call rfl K53 rfl (c53 (s18 a0) (s20 a1) (s20 a2) (by first | assumption | omega | (simp [copyL_len]; omega)) (by first | assumption | omega | (simp [copyL_len]; omega)) (condT1 br9 h)) (ag_cons (gd h rfl) (ag_cons (gd h rfl) (ag_cons (gd h rfl) ag_nil)))) rfl ?_
      refine st_g rfl rfl rfl (gb_bool _ _) (fun h => eff_call rfl K49 rfl (c49 r2.1 r2.2 0 r9 (condT1 br10 h)) (ag_cons (gd h rfl) (ag_cons (gd h rfl) (ag_cons rfl (ag_cons (gd h rfl) ag_nil))))) rfl ?_
      refine st rfl rfl (eff_and rfl rfl rfl rfl) rfl ?_
      refine st rfl rfl (eff_moveg rfl rfl) rfl ?_
      refine st_g rfl rfl rfl (gb_bool _ _) (fun h => eff_moveg rfl rfl) rfl ?_
      refine st_g rfl rfl rfl (gb_bool _ _) (fun h => eff_moveg rfl rfl) rfl ?_
      refine st_gr rfl rfl rfl (gb_bool _ _) (fun h => eff_loadOA rfl ty29 rfl rfl rfl rfl) rfl ?_
      refine st_g rfl rfl rfl (gb_bool _ _) (fun h => eff_moveg rfl rfl) rfl ?_
      refine st_g rfl rfl rfl (gb_bool _ _) (fun h => eff_moveg rfl rfl) rfl ?_
      refine st_g rfl rfl rfl (gb_bool _ _) (fun h => eff_call rfl K54 rfl (c54 (s18 a0) (s20 a1) (s20 a2) (by first | assumption | omega | (simp [copyL_len]; omega)) (by first | assumption | omega | (simp [copyL_len]; omega)) (condT1 br11 h)) (ag_cons (gd h rfl) (ag_cons (gd h rfl) (ag_cons (gd h rfl) ag_nil)))) rfl ?_
      refine st_g rfl rfl rfl (gb_bool _ _) (fun h => eff_call rfl K49 rfl (c49 r3.1 r3.2 0 r11 (condT1 br12 h)) (ag_cons (gd h rfl) (ag_cons (gd h rfl) (ag_cons rfl (ag_cons (gd h rfl) ag_nil))))) rfl ?_
      refine st rfl rfl (eff_and rfl rfl rfl rfl) rfl ?_
      refine st rfl rfl (eff_moveg rfl rfl) rfl ?_
      refine st_g rfl rfl rfl (gb_bool _ _) (fun h => eff_moveg rfl rfl) rfl ?_
      refine st_g rfl rfl rfl (gb_bool _ _) (fun h => eff_eql rfl (gd h rfl) rfl) rfl ?_
      refine st rfl rfl (eff_and rfl rfl rfl rfl) rfl ?_
      refine st rfl rfl (eff_moveg rfl rfl) rfl ?_
      refine st_g rfl rfl rfl (gb_bool _ _) (fun h => eff_moveg rfl rfl) rfl ?_
      refine st_gr rfl rfl rfl (gb_bool _ _) (fun h => eff_loadOA rfl ty29 rfl rfl rfl rfl) rfl ?_
      refine st_g rfl rfl rfl (gb_bool _ _) (fun h => eff_moveg rfl rfl) rfl ?_
      refine st_g rfl rfl rfl (gb_bool _ _) (fun h => eff_moveg rfl rfl) rfl ?_
      refine st_g rfl rfl rfl (gb_bool _ _) (fun h => eff_call rfl K55 rfl (c55 (s18 a0) (s20 a1) (s20 a2) (by first | assumption | omega | (simp [copyL_len]; omega)) (by first | assumption | omega | (simp [copyL_len]; omega)) (condT1 br13 h)) (ag_cons (gd h rfl) (ag_cons (gd h rfl) (ag_cons (gd h rfl) ag_nil)))) rfl ?_
      refine st_g rfl rfl rfl (gb_bool _ _) (fun h => eff_beql rfl Tryz.underlying4 (gd h rfl) (gd h rfl)) rfl ?_
      refine st rfl rfl (eff_and rfl rfl rfl rfl) rfl ?_
      refine st rfl rfl (eff_assigng rfl rfl) rfl ?_
      refine st_nil ?_
      refine aw_ret ?_
      obtain rfl := Option.some.inj hR
      exact res_c rfl (rv_g rfl)
end Go.Sim

namespace Go.Sim
/-! ## the matching: the first free record in order is the best one -/
theorem mget_mset {K V : Type} [DecidableEq K] (m : List (K × V)) (k j : K) (v : V) : mget (mset m k v) j = if k = j then some v else mget m j := by
  induction m with
  | nil => by_cases h : k = j <;> simp [mset, mget, h]
  | cons p m ih =>
    obtain ⟨a, b⟩ := p
    by_cases ha : a = k
    · subst ha
      by_cases h : a = j <;> simp [mset, mget, h]
    · by_cases h : a = j
      · subst h
        have hk : ¬ k = a := fun h => ha h.symm
        simp [mset, mget, ha, hk]
      · simp [mset, mget, ha, h, ih]
theorem mgetD_mset {K V : Type} [DecidableEq K] (m : List (K × V)) (k j : K) (v z : V) : mgetD (mset m k v) j z = if k = j then v else mgetD m j z := by
  unfold mgetD
  rw [mget_mset]
  by_cases h : k = j <;> simp [h]
theorem s80_eq (T : List Int) (j : Int) : s80 T j = decide (j ∈ T) := by
  have key : ∀ (T : List Int) (k : Nat), s80_l1 j T k = decide (j ∈ T) := by
    intro T
    induction T with
    | nil => intro k; simp [s80_l1]
    | cons y T ih =>
      intro k
      rw [s80_l1, ih]
      by_cases h : y = j
      · subst h; simp
      · have h' : ¬ j = y := fun e => h e.symm
        simp [h, h']
  exact key T 0
theorem s142_eq (a0 : S23) (a b : S151) : s142 a0 a b = s145 a0 a b := by
  unfold s142 s145
  have e1 : decide (b.Name = a.Name) = decide (a.Name = b.Name) := by rw [decide_eq_decide]; exact eq_comm
  have e2 : decide (b.Kind = a.Kind) = decide (a.Kind = b.Kind) := by rw [decide_eq_decide]; exact eq_comm
  rw [e1, e2]
  simp [eqAnd]
/-- a record answers a slot -/
def okI (a0 : S23) (u v : List S151) (i k : Int) : Bool := match u[i.toNat]?, v[k.toNat]? with
  | some a, some b => s142 a0 a b
  | _, _ => false
theorem okI_of {a0 : S23} {u v : List S151} {i k : Int} {a b : S151} (h : u[i.toNat]? = some a) (h' : v[k.toNat]? = some b) : okI a0 u v i k = s142 a0 a b := by unfold okI; rw [h, h']

theorem s115_find (rec1 : Nat → List S154 → List (Int × Bool) → Option (List S154)) (a0 : S23) (u v : List S151) (x : List S154) (m : List (Int × Bool)) (k6 : Nat) (i : Int) (hi : i ∈ idxs u.length) : ∀ (l : List Int) (k : Nat), (∀ j ∈ l, j ∈ idxs v.length) →
    s115_l2 rec1 a0 u v x m k6 i l k = match l.find? (fun j => !(mgetD m j false) && okI a0 u v i j) with
      | some j => rec1 (k6 + 1) (x ++ [⟨i, j⟩]) (mset m j true)
      | none => rec1 (k6 + 1) x m
  | [], k, _ => by rw [s115_l2]; rfl
  | j :: l, k, h => by
    obtain ⟨a, ha, ha'⟩ := ixO_idx hi
    obtain ⟨b, hb, hb'⟩ := ixO_idx (h j List.mem_cons_self)
    have ih := s115_find rec1 a0 u v x m k6 i hi l (k + 1) (fun z hz => h z (List.mem_cons_of_mem _ hz))
    rw [s115_l2, List.find?_cons, okI_of ha' hb', ha, hb, ih]
    cases hm : mgetD m j false
    · simp only [Bool.not_false, cond_true, bindO, Bool.true_and]
      cases hs : s142 a0 a b
      · rfl
      · rfl
    · simp only [Bool.not_true, cond_false, bindO, Bool.false_and]

def Best (v : List S151) (P : Int → Bool) (b : Int) (k : Nat) : Prop :=
  (b = -1 ∧ ∀ j ∈ idxs k, P j = false) ∨ (b ∈ idxs k ∧ P b = true ∧ ∀ j ∈ idxs k, P j = true → j ≠ b → RelM v b j)
theorem idxs_mem_succ {k : Nat} {j : Int} (h : j ∈ idxs (k + 1)) : j ∈ idxs k ∨ j = (k : Int) := by
  rw [idxs_succ] at h
  rcases List.mem_append.1 h with h | h
  · exact .inl h
  · exact .inr (List.mem_singleton.1 h)
theorem idxs_mem_up {k : Nat} {j : Int} (h : j ∈ idxs k) : j ∈ idxs (k + 1) := by
  rw [idxs_succ]; exact List.mem_append_left _ h
theorem idxs_mem_last (k : Nat) : (k : Int) ∈ idxs (k + 1) := mem_idxs.2 ⟨by omega, by omega⟩
theorem find_best {v : List S151} {P : Int → Bool} {b : Int} (h : Best v P b v.length) : (ordI v).find? P = if 0 ≤ b then some b else none := by
  rcases h with ⟨rfl, h⟩ | ⟨hb, hp, h⟩
  · rw [if_neg (by omega), List.find?_eq_none]
    intro x hx hpx
    rw [h x (ordI_mem.1 hx)] at hpx
    cases hpx
  · rw [if_pos (mem_idxs.1 hb).1]
    cases hf : (ordI v).find? P with
    | none => exact absurd hp (List.find?_eq_none.1 hf b (ordI_mem.2 hb))
    | some x =>
      obtain ⟨hpx, l1, l2, he, hn⟩ := List.find?_eq_some_iff_append.1 hf
      by_cases hx : x = b
      · rw [hx]
      · have hxm : x ∈ ordI v := by rw [he]; simp
        have h1 := h x (ordI_mem.1 hxm) hpx hx
        have hbm : b ∈ l1 ++ x :: l2 := by rw [← he]; exact ordI_mem.2 hb
        have hs := ordI_sorted v
        rw [he] at hs
        rcases List.mem_append.1 hbm with h2 | h2
        · have := hn b h2
          rw [hp] at this; cases this
        · rcases List.mem_cons.1 h2 with h2 | h2
          · exact absurd h2.symm hx
          · have := (List.pairwise_cons.1 (List.pairwise_append.1 hs).2.1).1 b h2
            exact (RelM.as h1 this).elim

theorem s120_scan (rec1 : Nat → List S154 → List Int → Option (List S154)) (a0 : S23) (u v : List S151) (x : List S154) (T : List Int) (k5 : Nat) (i : Int) (hi : i ∈ idxs u.length) : ∀ (l : List S151) (k : Nat) (b : Int), v.drop k = l → k + l.length = v.length →
    Best v (fun j => !(s80 T j) && okI a0 u v i j) b k →
    ∃ b', Best v (fun j => !(s80 T j) && okI a0 u v i j) b' v.length ∧ s120_l2 rec1 a0 u v x T k5 i l k b = bif decide (0 ≤ b') then rec1 (k5 + 1) (x ++ [⟨i, b'⟩]) (T ++ [b']) else rec1 (k5 + 1) x T
  | [], k, b, hd, hk, hb => by
    refine ⟨b, by rw [← hk]; exact hb, ?_⟩
    rw [s120_l2]; rfl
  | y :: l, k, b, hd, hk, hb => by
    obtain ⟨a, ha, ha'⟩ := ixO_idx hi
    have hy : v[k]? = some y := by
      have : (v.drop k)[0]? = some y := by rw [hd]; rfl
      simpa using this
    have hd' : v.drop (k + 1) = l := by
      have : v.drop (k + 1) = (v.drop k).drop 1 := by rw [List.drop_drop]
      rw [this, hd]; rfl
    have hok : okI a0 u v i (k : Int) = s145 a0 a y := by rw [okI_of ha' (b := y) (by simpa using hy), s142_eq]
    have hmk : momI v (k : Int) = y.Moment := momI_of (by simpa using hy)
    have hkl : k + 1 + l.length = v.length := by simp at hk; omega
    have go : ∀ b1, Best v (fun j => !(s80 T j) && okI a0 u v i j) b1 (k + 1) → s120_l2 rec1 a0 u v x T k5 i (y :: l) k b = s120_l2 rec1 a0 u v x T k5 i l (k + 1) b1 → ∃ b', Best v (fun j => !(s80 T j) && okI a0 u v i j) b' v.length ∧ s120_l2 rec1 a0 u v x T k5 i (y :: l) k b = bif decide (0 ≤ b') then rec1 (k5 + 1) (x ++ [⟨i, b'⟩]) (T ++ [b']) else rec1 (k5 + 1) x T := by
      intro b1 h1 h2
      obtain ⟨b', h3, h4⟩ := s120_scan rec1 a0 u v x T k5 i hi l (k + 1) b1 hd' hkl h1
      exact ⟨b', h3, h2.trans h4⟩
    cases hP : s145 a0 a y && !(s80 T (k : Int))
    · -- this record is out
      have hPk : (!(s80 T (k : Int)) && okI a0 u v i (k : Int)) = false := by rw [hok, Bool.and_comm]; exact hP
      refine go b ?_ (by rw [s120_l2, ha]; simp only [hP, Bool.false_and, cond_false, bindO]; rfl)
      rcases hb with ⟨rfl, h⟩ | ⟨h1, h2, h3⟩
      · refine .inl ⟨rfl, fun j hj => ?_⟩
        rcases idxs_mem_succ hj with hj | rfl
        · exact h j hj
        · exact hPk
      · refine .inr ⟨idxs_mem_up h1, h2, fun j hj hp hne => ?_⟩
        rcases idxs_mem_succ hj with hj | rfl
        · exact h3 j hj hp hne
        · exact absurd hp (by simp only [hPk]; decide)
    · have hPk : (!(s80 T (k : Int)) && okI a0 u v i (k : Int)) = true := by rw [hok, Bool.and_comm]; exact hP
      rcases hb with ⟨rfl, h⟩ | ⟨h1, h2, h3⟩
      · refine go (k : Int) ?_ ?_
        · refine .inr ⟨idxs_mem_last k, hPk, fun j hj hp hne => ?_⟩
          rcases idxs_mem_succ hj with hj | rfl
          · rw [h j hj] at hp; cases hp
          · exact absurd rfl hne
        · rw [s120_l2, ha]; simp only [hP, Bool.true_and, bindO]; rfl
      · obtain ⟨hb0, hbk⟩ := mem_idxs.1 h1
        have hbv : b.toNat < v.length := by omega
        obtain ⟨z, hz, hz'⟩ := ixO_idx (l := v) (mem_idxs.2 ⟨hb0, hbv⟩)
        have hneg : decide (b < 0) = false := decide_eq_false (by omega)
        have hmb : momI v b = z.Moment := momI_of hz'
        by_cases hlt : y.Moment < z.Moment
        · refine go (k : Int) ?_ ?_
          · refine .inr ⟨idxs_mem_last k, hPk, fun j hj hp hne => ?_⟩
            have hkb : RelM v (k : Int) b := .inl (by omega)
            rcases idxs_mem_succ hj with hj | rfl
            · by_cases hjb : j = b
              · rw [hjb]; exact hkb
              · exact RelM.tr _ _ _ hkb (h3 j hj hp hjb)
            · exact absurd rfl hne
          · rw [s120_l2, ha]; simp only [hP, hneg, hz, Bool.true_and, Bool.not_false, cond_true, bindO, Bool.false_or, decide_eq_true hlt]; rfl
        · refine go b ?_ ?_
          · refine .inr ⟨idxs_mem_up h1, h2, fun j hj hp hne => ?_⟩
            rcases idxs_mem_succ hj with hj | rfl
            · exact h3 j hj hp hne
            · by_cases he : y.Moment = z.Moment
              · exact .inr ⟨by omega, by omega⟩
              · exact .inl (by omega)
          · rw [s120_l2, ha]; simp only [hP, hneg, hz, Bool.true_and, Bool.not_false, cond_true, bindO, Bool.false_or, decide_eq_false hlt, cond_false]; rfl

/-- both matchings -/
theorem match_loop (a0 : S23) (u v : List S151) : ∀ (rest : List Int) (k k' : Nat) (x : List S154) (m : List (Int × Bool)) (T : List Int), (∀ i ∈ rest, i ∈ idxs u.length) → (∀ j, mgetD m j false = s80 T j) →
    ∃ M, s115_l1 a0 u v (ordI v) rest k x m = some (x ++ M) ∧ s120_l1 a0 u v rest k' x T = some (x ++ M) ∧ (M.map S154.Slot).Sublist rest ∧ ∀ e ∈ M, e.Record ∈ idxs v.length
  | [], k, k', x, m, T, _, _ => ⟨[], by simp [s115_l1], by simp [s120_l1], by simp, by simp⟩
  | i :: rest, k, k', x, m, T, hr, hm => by
    have hi := hr i List.mem_cons_self
    have hr' : ∀ j ∈ rest, j ∈ idxs u.length := fun j hj => hr j (List.mem_cons_of_mem _ hj)
    obtain ⟨b, hb, h1⟩ := s120_scan (fun k_ z0_ z1_ => s120_l1 a0 u v rest k_ z0_ z1_) a0 u v x T k' i hi v 0 (-1) rfl (by simp) (.inl ⟨rfl, fun j hj => by simp [idxs] at hj⟩)
    have h2 := s115_find (fun k_ z0_ z1_ => s115_l1 a0 u v (ordI v) rest k_ z0_ z1_) a0 u v x m k i hi (ordI v) 0 (fun j hj => ordI_mem.1 hj)
    have hf := find_best hb
    have hfun : (fun j => !(mgetD m j false) && okI a0 u v i j) = fun j => !(s80 T j) && okI a0 u v i j := funext fun j => by rw [hm]
    rw [hfun, hf] at h2
    rw [s115_l1, s120_l1, h1, h2]
    by_cases h0 : 0 ≤ b
    · rw [if_pos h0, decide_eq_true h0, cond_true]
      obtain ⟨M, g1, g2, g3, g4⟩ := match_loop a0 u v rest (k + 1) (k' + 1) (x ++ [⟨i, b⟩]) (mset m b true) (T ++ [b]) hr' (fun j => by
        rw [mgetD_mset, hm, s80_eq, s80_eq]
        by_cases hj : b = j
        · subst hj; simp
        · have : ¬ j = b := fun e => hj e.symm
          simp [hj, this])
      refine ⟨⟨i, b⟩ :: M, by simpa using g1, by simpa using g2, by simpa using g3, ?_⟩
      intro e he
      rcases List.mem_cons.1 he with rfl | he
      · rcases hb with ⟨rfl, _⟩ | ⟨hb, _, _⟩
        · omega
        · exact hb
      · exact g4 e he
    · rw [if_neg h0, decide_eq_false h0, cond_false]
      obtain ⟨M, g1, g2, g3, g4⟩ := match_loop a0 u v rest (k + 1) (k' + 1) x m T hr' hm
      exact ⟨M, g1, g2, g3.cons _, g4⟩
theorem match_ok (a0 : S23) (u v : List S151) : ∃ M, s115 a0 u v = some M ∧ s120 a0 u v = some M ∧ (M.map S154.Slot).Nodup ∧ (∀ e ∈ M, e.Slot ∈ idxs u.length) ∧ ∀ e ∈ M, e.Record ∈ idxs v.length := by
  obtain ⟨M, h1, h2, h3, h4⟩ := match_loop a0 u v (ordI u) 0 0 [] [] [] (fun i hi => ordI_mem.1 hi) (fun j => by simp [mgetD, mget, s80_eq])
  refine ⟨M, ?_, ?_, (ordI_nodup u).sublist h3, fun e he => ordI_mem.1 (h3.subset (List.mem_map_of_mem he)), h4⟩
  · unfold s115
    rw [s168_ok, s168_ok]
    simpa [bindO] using h1
  · unfold s120
    rw [s169_ok]
    simpa [bindO] using h2
end Go.Sim

namespace Go.Sim
/-! ## UseMatches: the law -/
theorem strict_unique : ∀ {a b : List S154}, a.Pairwise (fun x y => x.Slot < y.Slot) → b.Pairwise (fun x y => x.Slot < y.Slot) → (∀ x, x ∈ a ↔ x ∈ b) → a = b
  | [], [], _, _, _ => rfl
  | [], y :: b, _, _, h => by have := (h y).2 List.mem_cons_self; cases this
  | x :: a, [], _, _, h => by have := (h x).1 List.mem_cons_self; cases this
  | x :: a, y :: b, ha, hb, h => by
    obtain ⟨ha1, ha2⟩ := List.pairwise_cons.1 ha
    obtain ⟨hb1, hb2⟩ := List.pairwise_cons.1 hb
    have e : x = y := by
      rcases List.mem_cons.1 ((h x).1 List.mem_cons_self) with e | hx
      · exact e
      · rcases List.mem_cons.1 ((h y).2 List.mem_cons_self) with e | hy
        · exact e.symm
        · have := hb1 x hx
          have := ha1 y hy
          omega
    subst e
    congr 1
    refine strict_unique ha2 hb2 fun z => ⟨fun hz => ?_, fun hz => ?_⟩
    · rcases List.mem_cons.1 ((h z).1 (List.mem_cons_of_mem _ hz)) with e | h'
      · have := ha1 z hz; subst e; omega
      · exact h'
    · rcases List.mem_cons.1 ((h z).2 (List.mem_cons_of_mem _ hz)) with e | h'
      · have := hb1 z hz; subst e; omega
      · exact h'

/-- the slots in turn -/
def buck (M : List S154) : Nat → Nat → List S154
  | 0, _ => []
  | n + 1, k => M.filter (fun e => decide (e.Slot = (k : Int))) ++ buck M n (k + 1)
theorem mem_buck {M : List S154} {e : S154} : ∀ {n k : Nat}, e ∈ buck M n k ↔ e ∈ M ∧ (k : Int) ≤ e.Slot ∧ e.Slot < ((k + n : Nat) : Int)
  | 0, k => by simp only [buck, List.not_mem_nil, false_iff]; omega
  | n + 1, k => by
    rw [buck, List.mem_append, List.mem_filter, mem_buck (n := n) (k := k + 1), decide_eq_true_eq]
    constructor
    · rintro (⟨h1, h2⟩ | ⟨h1, h2, h3⟩)
      · exact ⟨h1, by omega, by omega⟩
      · exact ⟨h1, by omega, by omega⟩
    · rintro ⟨h1, h2, h3⟩
      by_cases h : e.Slot = (k : Int)
      · exact .inl ⟨h1, h⟩
      · exact .inr ⟨h1, by omega, by omega⟩
theorem buck_sorted {M : List S154} (hM : (M.map S154.Slot).Nodup) : ∀ (n k : Nat), (buck M n k).Pairwise (fun x y => x.Slot < y.Slot)
  | 0, k => List.Pairwise.nil
  | n + 1, k => by
    refine List.pairwise_append.2 ⟨?_, buck_sorted hM n (k + 1), fun a ha b hb => ?_⟩
    · have h1 : M.Pairwise (fun x y => x.Slot ≠ y.Slot) := List.pairwise_map.1 hM
      refine (h1.filter _).imp_of_mem fun {a b} ha hb hne => ?_
      have ha := (List.mem_filter.1 ha).2
      have hb := (List.mem_filter.1 hb).2
      simp only [decide_eq_true_eq] at ha hb
      omega
    · have ha := (List.mem_filter.1 ha).2
      simp only [decide_eq_true_eq] at ha
      have := (mem_buck.1 hb).2.1
      omega
theorem s52_in (rec1 : Nat → List S154 → Option (List S154)) (k4 : Nat) : ∀ (l : List S154) (k : Nat) (x : List S154), s52_l2 rec1 k4 l k x = rec1 (k4 + 1) (x ++ l.filter (fun e => decide (e.Slot = (k4 : Int))))
  | [], k, x => by rw [s52_l2]; simp
  | y :: l, k, x => by
    rw [s52_l2]
    by_cases h : y.Slot = (k4 : Int)
    · rw [decide_eq_true h, cond_true, s52_j1, s52_in rec1 k4 l, List.filter_cons, if_pos (by simpa using h)]
      simp
    · rw [decide_eq_false h, cond_false, s52_j1, s52_in rec1 k4 l, List.filter_cons, if_neg (by simpa using h)]
theorem s52_out (M : List S154) : ∀ (l : List S151) (k : Nat) (x : List S154), s52_l1 M l k x = some (x ++ buck M l.length k)
  | [], k, x => by rw [s52_l1]; simp [buck]
  | y :: l, k, x => by
    rw [s52_l1, s52_in, s52_out M l, List.length_cons, buck, List.append_assoc]
theorem sort_ok {M : List S154} {n : Nat} (hM : (M.map S154.Slot).Nodup) (hs : ∀ e ∈ M, e.Slot ∈ idxs n) : s114 M = some (buck M n 0) := by
  have h1 : copyL (List.replicate (List.length M) (S154.mk 0 0)) M = M := by
    unfold copyL; simp
  unfold s114
  rw [h1, s165_ok (lt := fun a b => decide (a.Slot < b.Slot)) (fun y _ x _ => ⟨_, rfl, by rw [s166, s167_lt]⟩)]
  simp only [bindO]
  congr 1
  refine strict_unique ?_ (buck_sorted hM n 0) fun x => ?_
  · refine isort_sorted (Rel := fun x y : S154 => x.Slot < y.Slot) (fun a b c h k => by omega) ?_
    refine (List.pairwise_map.1 hM).imp fun {a b} hne => ?_
    simp only [decide_eq_true_eq, decide_eq_false_iff_not]
    constructor <;> intro h <;> omega
  · rw [(isort_perm _ _).mem_iff, mem_buck]
    constructor
    · intro h
      have := mem_idxs.1 (hs x h)
      exact ⟨h, by omega, by omega⟩
    · exact fun h => h.1

/-- the unanswered -/
theorem s117_eq (M : List S154) (f : S154 → Int) : s117 M f = M.map f := by
  have key : ∀ (l : List S154) (k : Nat) (x : List Int), s117_l1 f l k x = x ++ l.map f := by
    intro l
    induction l with
    | nil => intro k x; simp [s117_l1]
    | cons y l ih => intro k x; rw [s117_l1, ih]; simp
  unfold s117; rw [key]; rfl
theorem s144_eq (l : List Int) (j : Int) : s144 l j = decide (j ∈ l) := by
  have key : ∀ (l : List Int) (k : Nat), decide (0 ≤ s190_l1 j l k) = decide (j ∈ l) := by
    intro l
    induction l with
    | nil => intro k; simp [s190_l1]
    | cons y l ih =>
      intro k
      rw [s190_l1]
      by_cases h : j = y
      · subst h; simp
      · rw [decide_eq_false h, cond_false, ih]; simp [h]
  unfold s144 s190; exact key l 0
theorem s53_in (rec1 : Nat → List Int → Option (List Int)) (x : List Int) (k4 : Nat) : ∀ (l : List S154) (k : Nat) (b : Bool), s53_l2 rec1 x k4 l k b = bif !(b || decide ((k4 : Int) ∈ l.map S154.Slot)) then rec1 (k4 + 1) (x ++ [(k4 : Int)]) else rec1 (k4 + 1) x
  | [], k, b => by rw [s53_l2]; simp [s53_j1]
  | y :: l, k, b => by
    rw [s53_l2, s53_in rec1 x k4 l]
    have : ((b || decide (y.Slot = (k4 : Int))) || decide ((k4 : Int) ∈ l.map S154.Slot)) = (b || decide ((k4 : Int) ∈ (y :: l).map S154.Slot)) := by
      by_cases h : y.Slot = (k4 : Int)
      · simp [h]
      · have h' : ¬ (k4 : Int) = y.Slot := fun e => h e.symm
        simp [h, h']
    rw [this]
theorem s54_in (rec1 : Nat → List Int → Option (List Int)) (x : List Int) (k4 : Nat) : ∀ (l : List S154) (k : Nat) (b : Bool), s54_l2 rec1 x k4 l k b = bif !(b || decide ((k4 : Int) ∈ l.map S154.Record)) then rec1 (k4 + 1) (x ++ [(k4 : Int)]) else rec1 (k4 + 1) x
  | [], k, b => by rw [s54_l2]; simp [s54_j1]
  | y :: l, k, b => by
    rw [s54_l2, s54_in rec1 x k4 l]
    have : ((b || decide (y.Record = (k4 : Int))) || decide ((k4 : Int) ∈ l.map S154.Record)) = (b || decide ((k4 : Int) ∈ (y :: l).map S154.Record)) := by
      by_cases h : y.Record = (k4 : Int)
      · simp [h]
      · have h' : ¬ (k4 : Int) = y.Record := fun e => h e.symm
        simp [h, h']
    rw [this]
theorem s53_out (M : List S154) : ∀ (l : List S151) (k : Nat) (x : List Int), s53_l1 M l k x = some (s116_l1 (M.map S154.Slot) l.length x (k : Int))
  | [], k, x => by rw [s53_l1]; rfl
  | y :: l, k, x => by
    rw [s53_l1, s53_in, List.length_cons, s116_l1, s144_eq]
    cases h : decide ((k : Int) ∈ M.map S154.Slot)
    · simp only [Bool.or_false, Bool.not_false, cond_true, s116_j1]
      exact s53_out M l (k + 1) _
    · simp only [Bool.or_true, Bool.not_true, cond_false, s116_j1]
      exact s53_out M l (k + 1) _
theorem s54_out (M : List S154) : ∀ (l : List S151) (k : Nat) (x : List Int), s54_l1 M l k x = some (s116_l1 (M.map S154.Record) l.length x (k : Int))
  | [], k, x => by rw [s54_l1]; rfl
  | y :: l, k, x => by
    rw [s54_l1, s54_in, List.length_cons, s116_l1, s144_eq]
    cases h : decide ((k : Int) ∈ M.map S154.Record)
    · simp only [Bool.or_false, Bool.not_false, cond_true, s116_j1]
      exact s54_out M l (k + 1) _
    · simp only [Bool.or_true, Bool.not_true, cond_false, s116_j1]
      exact s54_out M l (k + 1) _

/-- the run of late ones -/
theorem s23_run {a : S23} (h : s23 a = 0) : 1 ≤ a.Run ∧ a.Run ≤ 512 := by
  have key : ∀ (l : List ByteArray) (k : Nat), s23_l1 a l k = 0 → s84 [(s85 a.Off 0 720), (s85 a.Run 1 512)] = 0 := by
    intro l
    induction l with
    | nil => intro k h; rwa [s23_l1] at h
    | cons y l ih =>
      intro k h
      rw [s23_l1] at h
      cases hc : decide ((s84 [(s87 y), (s86 (s88 (List.take (Int.toNat ((k : Nat) : Int)) a.Causes) y) 9)]) ≠ 0)
      · rw [hc, cond_false] at h; exact ih _ h
      · rw [hc, cond_true] at h
        exact absurd h (of_decide_eq_true hc)
  unfold s23 at h
  cases hc : decide ((s84 [(s85 a.Before 0 720), (s85 a.After 0 720), (s85 a.Notice 0 365), (s85 a.Share 1 100), (s86 (decide (16 < (List.length a.Causes : Int))) 5)]) ≠ 0)
  · rw [hc, cond_false] at h
    have h1 := s84_all (key _ _ h) (s85 a.Run 1 512) (by simp)
    unfold s85 s86 at h1
    by_cases g1 : a.Run < 1
    · simp [g1] at h1
    · by_cases g2 : 512 < a.Run
      · simp [g2] at h1
      · omega
  · rw [hc, cond_true] at h
    exact absurd h (of_decide_eq_true hc)
theorem run_ok (a0 : S23) (u v : List S151) (hr : a0.Run ≤ 512) : ∀ (l : List S154) (k k' : Nat) (x : Int), 0 ≤ x → x < a0.Run → (∀ e ∈ l, e.Slot ∈ idxs u.length) → (∀ e ∈ l, e.Record ∈ idxs v.length) →
    ∃ r, s47_l1 a0 u v l k x = some (r, 0) ∧ s55_l1 a0 u v l k' x = some r
  | [], k, k', x, _, _, _, _ => ⟨false, rfl, rfl⟩
  | e :: l, k, k', x, h0, hx, hs, hv => by
    obtain ⟨a, ha, _⟩ := ixO_idx (hv e List.mem_cons_self)
    obtain ⟨b, hb, _⟩ := ixO_idx (hs e List.mem_cons_self)
    have hs' : ∀ e ∈ l, e.Slot ∈ idxs u.length := fun z hz => hs z (List.mem_cons_of_mem _ hz)
    have hv' : ∀ e ∈ l, e.Record ∈ idxs v.length := fun z hz => hv z (List.mem_cons_of_mem _ hz)
    have w : IntKind.i64.wrap (x + 1) = x + 1 := wrap_i64 ⟨by omega, by omega⟩
    rw [s47_l1, s55_l1, ha, hb]
    simp only [bindO, s47_j1, s55_j1, w]
    by_cases hc : a0.Off < max (IntKind.i64.wrap (a.Moment - b.Moment)) (IntKind.i64.wrap (0 - (IntKind.i64.wrap (a.Moment - b.Moment))))
    · rw [decide_eq_true hc]
      simp only [cond_true]
      by_cases he : x + 1 = a0.Run
      · rw [decide_eq_true he, decide_eq_true (by omega : a0.Run ≤ x + 1)]
        exact ⟨true, rfl, rfl⟩
      · rw [decide_eq_false he, decide_eq_false (by omega : ¬ a0.Run ≤ x + 1)]
        exact run_ok a0 u v hr l (k + 1) (k' + 1) (x + 1) (by omega) (by omega) hs' hv'
    · rw [decide_eq_false hc]
      simp only [cond_false]
      rw [decide_eq_false (by omega : ¬ (0 : Int) = a0.Run), decide_eq_false (by omega : ¬ a0.Run ≤ 0)]
      exact run_ok a0 u v hr l (k + 1) (k' + 1) 0 (by omega) (by omega) hs' hv'

/-- what is compared with itself -/
theorem s83_self (l : List Int) : s83 l l = some true := by
  have key : ∀ (r : List Int) (k : Nat), l.drop k = r → s83_l1 l r k = some true := by
    intro r
    induction r with
    | nil => intro k _; rfl
    | cons y r ih =>
      intro k hd
      have hy : l[k]? = some y := by
        have : (l.drop k)[0]? = some y := by rw [hd]; rfl
        simpa using this
      rw [s83_l1, ixO_nat hy]
      simp only [bindO]
      rw [decide_eq_false (by simp), cond_false]
      refine ih (k + 1) ?_
      have : l.drop (k + 1) = (l.drop k).drop 1 := by rw [List.drop_drop]
      rw [this, hd]; rfl
  unfold s83
  rw [decide_eq_false (by simp), cond_false]
  exact key l 0 rfl
theorem s50_self (l : List S154) : s50 l l = some true := by
  have key : ∀ (r : List S154) (k : Nat), l.drop k = r → s50_l1 l r k = some true := by
    intro r
    induction r with
    | nil => intro k _; rfl
    | cons y r ih =>
      intro k hd
      have hy : l[k]? = some y := by
        have : (l.drop k)[0]? = some y := by rw [hd]; rfl
        simpa using this
      rw [s50_l1, ixO_nat hy]
      simp only [bindO, eqAnd, decide_true, Bool.and_true, Bool.not_true, cond_false]
      refine ih (k + 1) ?_
      have : l.drop (k + 1) = (l.drop k).drop 1 := by rw [List.drop_drop]
      rw [this, hd]; rfl
  unfold s50
  rw [decide_eq_false (by simp), cond_false]
  exact key l 0 rfl
theorem s51_eq (l : List S154) : s51 l = l := by
  have key : ∀ (l : List S154) (k : Nat) (x : List S154), s51_l1 l k x = x ++ l := by
    intro l
    induction l with
    | nil => intro k x; simp [s51_l1]
    | cons y l ih => intro k x; rw [s51_l1, ih]; simp
  unfold s51; rw [key]; rfl
theorem s8_true (a0 : S23) (u v : List S151) : s8 a0 u v = some true := by
  unfold s8
  rw [s16_eq, s20_eq, s20_eq]
  cases (((!true) || (!(s17 (s18 a0)))) || (!(s19 u 8))) || (!(s19 v 8))
  · simp only [cond_false]
    rw [← both_eq]
    by_cases h : s113 a0 u v = 0
    · obtain ⟨M, h1, h2, h3, h4, h5⟩ := match_ok a0 u v
      have hd : decide (s113 a0 u v ≠ 0) = false := decide_eq_false (by simpa using h)
      obtain ⟨hr1, hr2⟩ := s23_run (s113_ok h).1
      obtain ⟨r, g1, g2⟩ := run_ok a0 u v hr2 M 0 0 0 (by omega) (by omega) h4 h5
      have e44 : s44 a0 u v = some (buck M u.length 0, 0) := by
        unfold s44; rw [hd, cond_false, h1]; simp only [bindO, sort_ok h3 h4]
      have e45 : s45 a0 u v = some (s116_l1 (M.map S154.Slot) u.length [] 0, 0) := by
        unfold s45; rw [hd, cond_false, h1]; simp only [bindO, s116, s117_eq]; simp [show s118 = S154.Slot from rfl]
      have e46 : s46 a0 u v = some (s116_l1 (M.map S154.Record) v.length [] 0, 0) := by
        unfold s46; rw [hd, cond_false, h1]; simp only [bindO, s116, s117_eq]; simp [show s119 = S154.Record from rfl]
      have e47 : s47 a0 u v = some (r, 0) := by
        unfold s47; rw [hd, cond_false, h1]; simp only [bindO]; exact g1
      have e52 : s52 (s18 a0) u v = some (buck M u.length 0) := by
        show s52 a0 u v = _
        unfold s52; rw [h2]; simp only [bindO]; rw [s52_out]; rfl
      have e53 : s53 (s18 a0) u v = some (s116_l1 (M.map S154.Slot) u.length [] 0) := by
        show s53 a0 u v = _
        unfold s53; rw [h2]; simp only [bindO]; exact s53_out M u 0 []
      have e54 : s54 (s18 a0) u v = some (s116_l1 (M.map S154.Record) v.length [] 0) := by
        show s54 a0 u v = _
        unfold s54; rw [h2]; simp only [bindO]; exact s54_out M v 0 []
      have e55 : s55 (s18 a0) u v = some r := by
        show s55 a0 u v = _
        unfold s55; rw [h2]; simp only [bindO]; exact g2
      have e49 : ∀ l, s49 l 0 0 l = some true := fun l => by
        unfold s49; simp [s83_self, bindO]
      rw [e44, e45, e46, e47, e52, e53, e54, e55]
      simp only [bindO, hd, cond_false, s51_eq, decide_true, cond_true, s50_self, Bool.and_self, e49, Bool.true_and]
      cases r <;> rfl
    · have hd : decide (s113 a0 u v ≠ 0) = true := decide_eq_true h
      have e44 : s44 a0 u v = some ([], s113 a0 u v) := by unfold s44; rw [hd, cond_true]
      have e45 : s45 a0 u v = some ([], s113 a0 u v) := by unfold s45; rw [hd, cond_true]
      have e46 : s46 a0 u v = some ([], s113 a0 u v) := by unfold s46; rw [hd, cond_true]
      have e47 : s47 a0 u v = some (false, s113 a0 u v) := by unfold s47; rw [hd, cond_true]
      have e49 : s49 [] (s113 a0 u v) (s113 a0 u v) [] = some true := by
        unfold s49; rw [hd, cond_true]; simp
      rw [e44, e45, e46, e47]
      simp [bindO, hd, e49]
  · rfl
end Go.Sim

