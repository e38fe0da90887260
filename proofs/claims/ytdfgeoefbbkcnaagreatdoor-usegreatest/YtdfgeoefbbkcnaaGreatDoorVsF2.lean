/-
  What is proved: the matching: the program and the reference find the same.
-/
import Derived.Test.YtdfgeoefbbkcnaaGreatDoorVaA4
import Derived.Test.YtdfgeoefbbkcnaaGreatDoorVaA6
import Derived.Test.YtdfgeoefbbkcnaaGreatDoorVsF1
import Derived.Test.YtdfgeoefbbkcnaaGreatDoorVaA9
set_option linter.unusedSectionVars false
set_option linter.unusedSimpArgs false
set_option linter.unusedVariables false
set_option linter.unnecessarySimpa false
set_option linter.deprecated false
namespace Go.Sim
end Go.Sim

set_option linter.unusedSimpArgs false
set_option linter.unusedVariables false
set_option maxRecDepth 10000
namespace Go.Sim
open Go.Proofs


/-- turnroundlaw09.first -/
def s35 (a0 : List Int) : Int :=
 (s89 a0)
theorem c35 {g : List (Nat × List Value)} (a0 : List Int)    : Con (EG g) 35 [G.sl 1 (List.map cInt a0)] (G.int (s35 a0)) := by
 generalize hR : s35 a0 = R
 unfold s35 at hR
 refine con_of_aw Tryz.func35 rfl rfl fun w0 M0 => ?_
 refine len_sl (f := cInt) (l := a0) 0 rfl fun hla0 => ?_
 refine aw_seq ?_
 refine aw_region [.p] ?_
 refine st rfl rfl (eff_assigng rfl rfl) rfl ?_
 refine st_nil ?_
 refine aw_seq ?_
 refine aw_region [.p, .p, .p] ?_
 refine st rfl rfl (eff_moveg rfl rfl) rfl ?_
 refine st rfl rfl (eff_call rfl K89 rfl (c89 a0) (ag_cons rfl ag_nil)) rfl ?_
 refine st rfl rfl (eff_assigng rfl rfl) rfl ?_
 refine st_nil ?_
 refine aw_ret ?_
 subst hR
 exact res_c rfl (rv_g rfl)

end Go.Sim

set_option linter.unusedSimpArgs false
set_option linter.unusedVariables false
set_option maxRecDepth 10000
namespace Go.Sim
open Go.Proofs


/-- use.sorted$1 -/
def s166 (a0 : S154) (a1 : S154) : Int :=
 (s167 a0.Slot a1.Slot)
theorem c166 {g : List (Nat × List Value)} (a0 : S154) (a1 : S154)    : Con (EG g) 166 [G.agg [G.int a0.Slot, G.int a0.Record], G.agg [G.int a1.Slot, G.int a1.Record]] (G.int (s166 a0 a1)) := by
 generalize hR : s166 a0 a1 = R
 unfold s166 at hR
 refine con_of_aw Tryz.func166 rfl rfl fun w0 M0 => ?_
 refine aw_seq ?_
 refine aw_region [.p, .p, .p] ?_
 refine st rfl rfl (eff_box rfl rfl) rfl ?_
 refine st rfl rfl (eff_box rfl rfl) rfl ?_
 refine st rfl rfl (eff_assigng rfl rfl) rfl ?_
 refine st_nil ?_
 refine aw_seq ?_
 refine aw_region [.p, .p, .p, .p, .p, .p] ?_
 refine st rfl rfl (eff_fieldAddr rfl fl155_0 rfl) rfl ?_
 refine st rfl rfl (eff_load rfl ty3 rfl) rfl ?_
 refine st rfl rfl (eff_fieldAddr rfl fl155_0 rfl) rfl ?_
 refine st rfl rfl (eff_load rfl ty3 rfl) rfl ?_
 refine st rfl rfl (eff_call rfl K167 rfl (c167 a0.Slot a1.Slot) (ag_cons rfl (ag_cons rfl ag_nil))) rfl ?_
 refine st rfl rfl (eff_assigng rfl rfl) rfl ?_
 refine st_nil ?_
 refine aw_ret ?_
 subst hR
 exact res_c rfl (rv_g rfl)

/-- use.ordered$1 -/
def s204 (a0 : Int) (a1 : Int) (a2 : List S151) : Option Int :=
 bindO (ixO a2 a0) fun y1 => bindO (ixO a2 a1) fun y2 => some (s167 y1.Moment y2.Moment)
theorem c204 {g : List (Nat × List Value)} (a0 : Int) (a1 : Int) (a2 : List S151) {R : Int}   (hR : s204 a0 a1 a2 = some R) : Con (EG g) 204 [G.int a0, G.int a1, G.ref [G.sl 3 (List.map S151.c a2)]] (G.int R) := by
 unfold s204 at hR
 refine con_of_aw Tryz.func204 rfl rfl fun w0 M0 => ?_
 refine aw_seq ?_
 refine aw_region [.p] ?_
 refine st rfl rfl (eff_assigng rfl rfl) rfl ?_
 refine st_nil ?_
 refine aw_seq ?_
 obtain ⟨y1, by1, hR⟩ := bindO_inv hR
 obtain ⟨y2, by2, hR⟩ := bindO_inv hR
 refine aw_draw [.p, .p, .p, .p, .p, .p, .p, .p, .p, .p, .p, .p] (by kernel_rfl) ?_
 refine st rfl rfl (eff_load rfl ty25 rfl) rfl ?_
 refine st rfl rfl (eff_moveg rfl rfl) rfl ?_
 refine st rfl rfl (eff_ix (f := S151.c) (l := a2) (a := y1) rfl Tryz.underlying25 ty152 rfl rfl (ixO_nn by1) (ixO_get by1)) rfl ?_
 refine st rfl rfl (eff_fieldAddr rfl fl152_1 rfl) rfl ?_
 refine st rfl rfl (eff_load rfl ty3 rfl) rfl ?_
 refine st rfl rfl (eff_load rfl ty25 rfl) rfl ?_
 refine st rfl rfl (eff_moveg rfl rfl) rfl ?_
 refine st rfl rfl (eff_ix (f := S151.c) (l := a2) (a := y2) rfl Tryz.underlying25 ty152 rfl rfl (ixO_nn by2) (ixO_get by2)) rfl ?_
 refine st rfl rfl (eff_fieldAddr rfl fl152_1 rfl) rfl ?_
 refine st rfl rfl (eff_load rfl ty3 rfl) rfl ?_
 refine st rfl rfl (eff_call rfl K167 rfl (c167 y1.Moment y2.Moment) (ag_cons rfl (ag_cons rfl ag_nil))) rfl ?_
 refine st rfl rfl (eff_assigng rfl rfl) rfl ?_
 refine st_nil ?_
 refine aw_ret ?_
 obtain rfl := Option.some.inj hR
 exact res_c rfl (rv_g rfl)

/-- use.ordered -/
def s168_l1 (a0 : List S151) : List S151 → Nat → (List Int) → Option (List Int)
 | [], k4, x2 => bindO (s203 x2 (fun x0 x1 => s204 x0 x1 a0)) fun r7 => some r7
 | y5 :: t6, k4, x2 => bindO (ixO x2 ((k4 : Nat) : Int)) fun y8 => s168_l1 a0 t6 (k4 + 1) (List.set x2 (Int.toNat ((k4 : Nat) : Int)) ((k4 : Nat) : Int))
def s168 (a0 : List S151) : Option (List Int) :=
 s168_l1 a0 a0 0 (List.replicate (List.length a0) 0)
theorem n168 {g : List (Nat × List Value)} (a0 : List S151) {R : List Int}  (hb0 : a0.length ≤ 12) (hR : s168 a0 = some R) : ConN (EG g) 168 [G.sl 3 (List.map S151.c a0)] 3 1 (List.map cInt R) := by
 unfold s168 at hR
 refine conN_of_aw Tryz.func168 rfl rfl fun w0 M0 => ?_
 refine len_sl (f := S151.c) (l := a0) 0 rfl fun hla0 => ?_
 refine aw_seq ?_
 refine aw_region [.p, .w] ?_
 refine st rfl rfl (eff_box rfl rfl) rfl ?_
 refine st_w rfl rfl (eff_nilL 2 3 1 rfl rfl rfl) rfl ?_
 refine st_nil ?_
 refine aw_seq ?_
 refine aw_region [.p, .p, .w, .p] ?_
 refine st rfl rfl (eff_load rfl ty25 rfl) rfl ?_
 refine st rfl rfl (eff_lenM (f := S151.c) (l := a0) rfl Tryz.underlying25 rfl) rfl ?_
 refine st_w rfl rfl (eff_makeS (f := cInt) (z := 0) 7 rfl mk82 rfl rfl rfl (by first | exact Int.le_refl _ | omega) (by first | decide | omega) rfl rfl rfl) rfl ?_
 refine st rfl rfl (eff_assignO rfl rfl) rfl ?_
 refine st_nil ?_
 refine aw_seq ?_
 refine aw_seq ?_
 refine aw_region [.p, .p, .p] ?_
 refine st rfl rfl (eff_load rfl ty25 rfl) rfl ?_
 refine st rfl rfl (eff_lenM (f := S151.c) (l := a0) rfl Tryz.underlying25 rfl) rfl ?_
 refine st rfl rfl (eff_moveg rfl rfl) rfl ?_
 refine st_nil ?_
 refine aw_block ?_
 refine aw_loop_g (γ := Nat × (List S151) × (List Int)) (fun g => ([(1, .g (G.ref [G.sl 3 (List.map S151.c a0)])), (3, .osl 7 1 0 (List.length a0)), (9, .g (G.int (List.length a0 : Int))), (10, .g (G.int ((g.1 : Nat) : Int)))], [(7, .arr 3 1 (List.map cInt g.2.2))])) (fun g => List.length g.2.2 = List.length a0 ∧ a0.drop g.1 = g.2.1 ∧ s168_l1 a0 g.2.1 g.1 g.2.2 = some R) (fun g => List.length g.2.1) ⟨rfl, (0, a0, List.replicate (List.length a0) 0), ⟨rfl, rfl, rfl, rfl, trivial⟩, ⟨rfl, trivial⟩, rfl, ⟨List.length_replicate, rfl, hR⟩, trivial⟩ ?_
 ·rintro ⟨k4, t6, x2⟩ ⟨ln3, hd, hR⟩
  replace hd : a0.drop k4 = t6 := hd
  replace hR : s168_l1 a0 t6 k4 x2 = some R := hR
  replace ln3 : List.length x2 = List.length a0 := ln3
  refine aw_seq ?_
  refine aw_region [.p] ?_
  refine st rfl rfl (eff_lss rfl rfl rfl) rfl ?_
  refine st_nil ?_
  refine aw_seq ?_
  refine aw_cond _ rfl (fun h1 => ?_) (fun h1 => ?_)
  ·replace h1 : (decide (((k4 : Nat) : Int) < (List.length a0 : Int))) = true := h1
   obtain ⟨y5, t6, rfl, hx1, hd⟩ := drop_cons hd (decT h1)
   replace h1 := decT h1
   rw [s168_l1] at hR
   try dsimp only at hR
   refine aw_skip ?_
   refine aw_seq ?_
   refine aw_block ?_
   refine aw_seq ?_
   refine aw_region [.p, .p] ?_
   refine st rfl rfl (eff_moveg rfl rfl) rfl ?_
   refine st rfl rfl (eff_assigng rfl rfl) rfl ?_
   refine st_nil ?_
   obtain ⟨y8, by8, hR⟩ := bindO_inv hR
   refine aw_region [.p, .p, .p, .p, .w] ?_
   refine st rfl rfl (eff_moveO rfl rfl) rfl ?_
   refine st rfl rfl (eff_moveg rfl rfl) rfl ?_
   refine st rfl rfl (eff_moveg rfl rfl) rfl ?_
   refine st rfl rfl (eff_ixL rfl Tryz.underlying82 ty3 rfl rfl (ixO_nn by8) (Nat.lt_of_lt_of_eq (get_lt (ixO_get by8)) ln3)) rfl ?_
   refine st_wn rfl rfl (eff_setL (f := cInt) (l := x2) (a' := ((k4 : Nat) : Int)) rfl ty3 rfl rfl rfl (Nat.lt_of_lt_of_eq (Nat.lt_of_lt_of_eq (get_lt (ixO_get by8)) ln3) (Eq.symm ln3)) rfl (fun _ => rfl)) ?_
   refine st_nil ?_
   refine aw_region [.p, .p] ?_
   refine st rfl rfl (eff_add rfl rfl rfl (by unfold I64; omega)) rfl ?_
   refine st rfl rfl (eff_moveg rfl rfl) rfl ?_
   refine st_nil ?_
   exact ⟨rfl, (k4 + 1, t6, List.set x2 (Int.toNat ((k4 : Nat) : Int)) ((k4 : Nat) : Int)), ⟨rfl, rfl, rfl, rfl, trivial⟩, ⟨rfl, trivial⟩, rfl, ⟨((List.length_set ..).trans ln3), hd, hR⟩, by simp⟩
  ·replace h1 : (decide (((k4 : Nat) : Int) < (List.length a0 : Int))) = false := h1
   obtain rfl := drop_nil hd (decF h1)
   rw [s168_l1] at hR
   refine aw_exit ?_
   refine aw_seq ?_
   obtain ⟨r7, br7, hR⟩ := bindO_inv hR
   refine aw_region [.p, .p, .w] ?_
   refine st rfl rfl (eff_moveO rfl rfl) rfl ?_
   refine st rfl rfl (eff_makeF rfl rfl rfl) rfl ?_
   refine st_w rfl rfl (eff_callB1 0 7 rfl K203 rfl (c203 x2 (fun x0 x1 => s204 x0 x1 a0) ln3 fnis_fn K204 (fun x0 x1 r_ h_ => c204 x0 x1 a0 h_) (by first | assumption | omega | (simp [copyL_len]; omega)) br7) (at_cons rfl rfl (at_cons rfl rfl at_nil)) rfl rfl rfl) rfl ?_
   refine st_nil ?_
   refine aw_seq ?_
   refine aw_region [.p, .p] ?_
   refine st rfl rfl (eff_moveO rfl rfl) rfl ?_
   refine st rfl rfl (eff_assignO rfl rfl) rfl ?_
   refine st_nil ?_
   refine aw_ret ?_
   obtain rfl := Option.some.inj hR
   exact doneN_own rfl rfl rfl ((List.length_map ..).trans ((len203 br7).trans ln3))
theorem c168 {g : List (Nat × List Value)} (a0 : List S151) {R : List Int}  (hb0 : a0.length ≤ 12) (hR : s168 a0 = some R) : Con (EG g) 168 [G.sl 3 (List.map S151.c a0)] (G.sl 1 (List.map cInt R)) :=
 ConN.con (by decide) (n168 a0 hb0 hR)
end Go.Sim

namespace Go.Sim
theorem len168_l (a0 : List S151) : ∀ (l : List S151) (k : Nat) (x r : List Int), s168_l1 a0 l k x = some r → r.length = x.length
  | [], k, x, r, h => by
    rw [s168_l1] at h
    obtain ⟨y, h1, h⟩ := bindO_inv h
    cases h
    exact len203 h1
  | y :: l, k, x, r, h => by
    rw [s168_l1] at h
    obtain ⟨z, h1, h⟩ := bindO_inv h
    have := len168_l a0 l _ _ _ h
    simpa using this
theorem len168 {a0 : List S151} {r : List Int} (h : s168 a0 = some r) : r.length = a0.length := by
  have := len168_l a0 _ _ _ _ h
  simpa using this
end Go.Sim

set_option linter.unusedSimpArgs false
set_option linter.unusedVariables false
set_option maxRecDepth 10000
namespace Go.Sim
open Go.Proofs


/-- use.sorted -/
def s114 (a0 : List S154) : Option (List S154) :=
 bindO (s165 (copyL (List.replicate (List.length a0) (S154.mk 0 0)) a0) (fun x0_ x1_ => some (s166 x0_ x1_))) fun r1 => some r1
theorem n114 (a0 : List S154) {R : List S154}  (hb0 : a0.length ≤ 12) (hR : s114 a0 = some R) : ConN (EG glT) 114 [G.sl 2 (List.map S154.c a0)] 155 2 (List.map S154.c R) := by
 unfold s114 at hR
 refine conN_of_aw Tryz.func114 rfl rfl fun w0 M0 => ?_
 refine len_sl (f := S154.c) (l := a0) 0 rfl fun hla0 => ?_
 refine aw_seq ?_
 refine aw_region [.w] ?_
 refine st_w rfl rfl (eff_nilL 2 155 2 rfl rfl rfl) rfl ?_
 refine st_nil ?_
 refine aw_seq ?_
 refine aw_region [.p, .p, .w, .p] ?_
 refine st rfl rfl (eff_moveg rfl rfl) rfl ?_
 refine st rfl rfl (eff_lenM (f := S154.c) (l := a0) rfl Tryz.underlying79 rfl) rfl ?_
 refine st_w rfl rfl (eff_makeS (f := S154.c) (z := (S154.mk 0 0)) 6 rfl mk79 rfl rfl rfl (by first | exact Int.le_refl _ | omega) (by first | decide | omega) rfl rfl rfl) rfl ?_
 refine st rfl rfl (eff_assignO rfl rfl) rfl ?_
 refine st_nil ?_
 refine aw_seq ?_
 refine aw_region [.p, .p, .w] ?_
 refine st rfl rfl (eff_moveO rfl rfl) rfl ?_
 refine st rfl rfl (eff_moveg rfl rfl) rfl ?_
 refine st_w rfl rfl (eff_copyL (f := S154.c) (d := List.replicate (List.length a0) (S154.mk 0 0)) (s := a0) rfl app79 rfl List.length_replicate rfl (src_eq rfl (src_sl (by decide) (by simp [S154.c])))) rfl ?_
 refine st_nil ?_
 refine aw_seq ?_
 obtain ⟨r1, br1, hR⟩ := bindO_inv hR
 refine aw_region [.p, .w] ?_
 refine st rfl rfl (eff_moveO rfl rfl) rfl ?_
 refine st_w rfl rfl (eff_callB1 0 6 rfl K165 rfl (c165 (copyL (List.replicate (List.length a0) (S154.mk 0 0)) a0) (fun x0_ x1_ => some (s166 x0_ x1_)) ((copyL_len _ _).trans List.length_replicate) fnis_lit K166 (fun x0_ x1_ r_ h_ => Option.some.inj h_ ▸ (fun x0 x1 => c166 x0 x1) x0_ x1_) (by first | assumption | omega | (simp [copyL_len]; omega)) br1) (at_cons rfl rfl (at_cons rfl rfl at_nil)) rfl rfl rfl) rfl ?_
 refine st_nil ?_
 refine aw_seq ?_
 refine aw_region [.p, .p] ?_
 refine st rfl rfl (eff_moveO rfl rfl) rfl ?_
 refine st rfl rfl (eff_assignO rfl rfl) rfl ?_
 refine st_nil ?_
 refine aw_ret ?_
 obtain rfl := Option.some.inj hR
 exact doneN_own rfl rfl rfl ((List.length_map ..).trans ((len165 br1).trans ((copyL_len _ _).trans List.length_replicate)))
theorem c114 (a0 : List S154) {R : List S154}  (hb0 : a0.length ≤ 12) (hR : s114 a0 = some R) : Con (EG glT) 114 [G.sl 2 (List.map S154.c a0)] (G.sl 2 (List.map S154.c R)) :=
 ConN.con (by decide) (n114 a0 hb0 hR)

/-- (use.Rule).possible -/
def s142 (a0 : S23) (a1 : S151) (a2 : S151) : Bool :=
 ((eqAnd [decide (a2.Name = a1.Name), decide (a2.Moment = a2.Moment), decide (a2.Kind = a1.Kind)]) && (decide (IntKind.i64.wrap (a1.Moment - a0.Before) ≤ a2.Moment))) && (decide (a2.Moment ≤ IntKind.i64.wrap (a1.Moment + a0.After)))
theorem c142 {g : List (Nat × List Value)} (a0 : S23) (a1 : S151) (a2 : S151)    : Con (EG g) 142 [G.agg [G.int a0.Before, G.int a0.After, G.int a0.Notice, G.int a0.Share, G.sl 1 (List.map cStr a0.Causes), G.int a0.Off, G.int a0.Run], G.agg [G.str a1.Name, G.int a1.Moment, G.str a1.Kind], G.agg [G.str a2.Name, G.int a2.Moment, G.str a2.Kind]] (G.bool (s142 a0 a1 a2)) := by
 generalize hR : s142 a0 a1 a2 = R
 unfold s142 at hR
 refine con_of_aw Tryz.func142 rfl rfl fun w0 M0 => ?_
 refine aw_seq ?_
 refine aw_region [.p, .p, .p, .p] ?_
 refine st rfl rfl (eff_box rfl rfl) rfl ?_
 refine st rfl rfl (eff_box rfl rfl) rfl ?_
 refine st rfl rfl (eff_box rfl rfl) rfl ?_
 refine st rfl rfl (eff_assigng rfl rfl) rfl ?_
 refine st_nil ?_
 refine aw_seq ?_
 refine aw_region [.p, .p, .p, .p, .p, .p, .p, .w, .w] ?_
 refine st rfl rfl (eff_fieldAddr rfl fl152_0 rfl) rfl ?_
 refine st rfl rfl (eff_load rfl ty9 rfl) rfl ?_
 refine st rfl rfl (eff_fieldAddr rfl fl152_1 rfl) rfl ?_
 refine st rfl rfl (eff_load rfl ty3 rfl) rfl ?_
 refine st rfl rfl (eff_fieldAddr rfl fl152_2 rfl) rfl ?_
 refine st rfl rfl (eff_load rfl ty9 rfl) rfl ?_
 refine st rfl rfl (eff_build rfl z152 rfl pl152 (pb_cons rfl (pb_cons rfl (pb_cons rfl pb_nil))) rfl) rfl ?_
 refine st_w rfl rfl (eff_alloc 7 rfl z152 rfl rfl) rfl ?_
 refine st_wn rfl rfl (eff_store (tv := .g (G.agg [G.str a1.Name, G.int a2.Moment, G.str a1.Kind])) rfl ty152 rfl rfl rfl rfl rfl) ?_
 refine st_nil ?_
 refine aw_seq ?_
 refine aw_region [.p, .r, .p, .p, .p, .p, .p, .p, .p, .p, .p, .p, .p, .p, .p, .p, .p, .p, .p, .p, .p, .p, .p, .p] ?_
 refine st rfl rfl (eff_loadA rfl ty152 rfl rfl rfl) rfl ?_
 refine st_r rfl rfl (eff_loadOA rfl ty152 rfl rfl rfl rfl) rfl ?_
 refine st rfl rfl (eff_aeql [.string a2.Name, .int .i64 a2.Moment, .string a2.Kind] [.string a1.Name, .int .i64 a2.Moment, .string a1.Kind] rfl flat152 rfl rfl rfl rfl rfl) rfl ?_
 refine st rfl rfl (eff_moveg rfl rfl) rfl ?_
 refine st_g rfl rfl rfl (gb_bool _ _) (fun h => eff_fieldAddr rfl fl152_1 rfl) rfl ?_
 refine st_g rfl rfl rfl (gb_bool _ _) (fun h => eff_load rfl ty3 (gd h rfl)) rfl ?_
 refine st_g rfl rfl rfl (gb_bool _ _) (fun h => eff_fieldAddr rfl fl152_1 rfl) rfl ?_
 refine st_g rfl rfl rfl (gb_bool _ _) (fun h => eff_load rfl ty3 (gd h rfl)) rfl ?_
 refine st_g rfl rfl rfl (gb_bool _ _) (fun h => eff_fieldAddr rfl fl24_0 rfl) rfl ?_
 refine st_g rfl rfl rfl (gb_bool _ _) (fun h => eff_load rfl ty3 (gd h rfl)) rfl ?_
 refine st_g rfl rfl rfl (gb_bool _ _) (fun h => eff_subw rfl (gd h rfl) (gd h rfl)) rfl ?_
 refine st_g rfl rfl rfl (gb_bool _ _) (fun h => eff_geq rfl (gd h rfl) (gd h rfl)) rfl ?_
 refine st rfl rfl (eff_and rfl rfl rfl rfl) rfl ?_
 refine st rfl rfl (eff_moveg rfl rfl) rfl ?_
 refine st_g rfl rfl rfl (gb_bool _ _) (fun h => eff_fieldAddr rfl fl152_1 rfl) rfl ?_
 refine st_g rfl rfl rfl (gb_bool _ _) (fun h => eff_load rfl ty3 (gd h rfl)) rfl ?_
 refine st_g rfl rfl rfl (gb_bool _ _) (fun h => eff_fieldAddr rfl fl152_1 rfl) rfl ?_
 refine st_g rfl rfl rfl (gb_bool _ _) (fun h => eff_load rfl ty3 (gd h rfl)) rfl ?_
 refine st_g rfl rfl rfl (gb_bool _ _) (fun h => eff_fieldAddr rfl fl24_1 rfl) rfl ?_
 refine st_g rfl rfl rfl (gb_bool _ _) (fun h => eff_load rfl ty3 (gd h rfl)) rfl ?_
 refine st_g rfl rfl rfl (gb_bool _ _) (fun h => eff_addw rfl (gd h rfl) (gd h rfl)) rfl ?_
 refine st_g rfl rfl rfl (gb_bool _ _) (fun h => eff_leq rfl (gd h rfl) (gd h rfl)) rfl ?_
 refine st rfl rfl (eff_and rfl rfl rfl rfl) rfl ?_
 refine st rfl rfl (eff_assigng rfl rfl) rfl ?_
 refine st_nil ?_
 refine aw_ret ?_
 subst hR
 exact res_c rfl (rv_g rfl)

/-- (use.Rule).matched -/
def s115_j1 (rec1 : Nat → (List S154) → (List (Int × Bool)) → Option (List S154)) (k6 : Nat) (x9 : List S154) (x10 : List (Int × Bool)) : Option (List S154) :=
 rec1 (k6 + 1) x9 x10
def s115_l2 (rec1 : Nat → (List S154) → (List (Int × Bool)) → Option (List S154)) (a0 : S23) (a1 : List S151) (a2 : List S151) (x3 : List S154) (x5 : List (Int × Bool)) (k6 : Nat) (y7 : Int) : List Int → Nat → Option (List S154)
 | [], k12 => s115_j1 rec1 k6 x3 x5
 | y13 :: t14, k12 => bindO (bif !(mgetD x5 y13 false) then ixO a1 y7 else some default) fun y15 => bindO (bif !(mgetD x5 y13 false) then ixO a2 y13 else some default) fun y16 => (bif (!(mgetD x5 y13 false)) && (s142 a0 y15 y16) then s115_j1 rec1 k6 (x3 ++ [(S154.mk y7 y13)]) (mset x5 y13 true) else s115_l2 rec1 a0 a1 a2 x3 x5 k6 y7 t14 (k12 + 1))
def s115_l1 (a0 : S23) (a1 : List S151) (a2 : List S151) (r1 : List Int) : List Int → Nat → (List S154) → (List (Int × Bool)) → Option (List S154)
 | [], k6, x3, x5 => some x3
 | y7 :: t8, k6, x3, x5 => s115_l2 (fun k_ z0_ z1_ => s115_l1 a0 a1 a2 r1 t8 k_ z0_ z1_) a0 a1 a2 x3 x5 k6 y7 r1 0
def s115 (a0 : S23) (a1 : List S151) (a2 : List S151) : Option (List S154) :=
 bindO (s168 a2) fun r1 => bindO (s168 a1) fun r2 => s115_l1 a0 a1 a2 r1 r2 0 [] []
theorem n115 {g : List (Nat × List Value)} (a0 : S23) (a1 : List S151) (a2 : List S151) {R : List S154}  (hb1 : a1.length ≤ 12) (hb2 : a2.length ≤ 12) (hR : s115 a0 a1 a2 = some R) : ConN (EG g) 115 [G.agg [G.int a0.Before, G.int a0.After, G.int a0.Notice, G.int a0.Share, G.sl 1 (List.map cStr a0.Causes), G.int a0.Off, G.int a0.Run], G.sl 3 (List.map S151.c a1), G.sl 3 (List.map S151.c a2)] 155 2 (List.map S154.c R) := by
 unfold s115 at hR
 refine conN_of_aw Tryz.func115 rfl rfl fun w0 M0 => ?_
 refine len_sl (f := S151.c) (l := a1) 1 rfl fun hla1 => ?_
 refine len_sl (f := S151.c) (l := a2) 2 rfl fun hla2 => ?_
 refine aw_seq ?_
 refine aw_region [.p, .w] ?_
 refine st rfl rfl (eff_box rfl rfl) rfl ?_
 refine st_w rfl rfl (eff_nilL 6 155 2 rfl rfl rfl) rfl ?_
 refine st_nil ?_
 refine aw_seq ?_
 refine aw_region [.w, .p] ?_
 refine st_w rfl rfl (eff_makeMap 14 rfl rfl) rfl ?_
 refine st rfl rfl (eff_assignM rfl rfl) rfl ?_
 refine st_nil ?_
 refine aw_seq ?_
 obtain ⟨r1, br1, hR⟩ := bindO_inv hR
 refine aw_region [.p, .p, .p] ?_
 refine st rfl rfl (eff_moveg rfl rfl) rfl ?_
 refine st rfl rfl (eff_call rfl K168 rfl (c168 a2 (by first | assumption | omega | (simp [copyL_len]; omega)) br1) (ag_cons rfl ag_nil)) rfl ?_
 refine st rfl rfl (eff_assigng rfl rfl) rfl ?_
 refine st_nil ?_
 have hl1 := len168 br1
 refine aw_seq ?_
 refine aw_region [.w] ?_
 refine st_w rfl rfl (eff_nilL 9 155 2 rfl rfl rfl) rfl ?_
 refine st_nil ?_
 refine aw_seq ?_
 refine aw_seq ?_
 obtain ⟨r2, br2, hR⟩ := bindO_inv hR
 refine aw_region [.p, .p, .p, .p] ?_
 refine st rfl rfl (eff_moveg rfl rfl) rfl ?_
 refine st rfl rfl (eff_call rfl K168 rfl (c168 a1 (by first | assumption | omega | (simp [copyL_len]; omega)) br2) (ag_cons rfl ag_nil)) rfl ?_
 refine st rfl rfl (eff_lenM (f := cInt) (l := r2) rfl Tryz.underlying82 rfl) rfl ?_
 refine st rfl rfl (eff_moveg rfl rfl) rfl ?_
 refine st_nil ?_
 have hl2 := len168 br2
 refine aw_block ?_
 refine aw_loop_g (γ := Nat × (List Int) × (List S154) × (List (Int × Bool))) (fun g => ([(1, .g (G.sl 3 (List.map S151.c a1))), (2, .g (G.sl 3 (List.map S151.c a2))), (3, .g (G.ref [G.int a0.Before, G.int a0.After, G.int a0.Notice, G.int a0.Share, G.sl 1 (List.map cStr a0.Causes), G.int a0.Off, G.int a0.Run])), (7, .omap 14), (8, .g (G.sl 1 (List.map cInt r1))), (9, .osl 9 2 0 (List.length g.2.2.1)), (18, .g (G.sl 1 (List.map cInt r2))), (19, .g (G.int (List.length r2 : Int))), (20, .g (G.int ((g.1 : Nat) : Int)))], [(9, .arr 155 2 (List.map S154.c g.2.2.1)), (14, mpB (K := Int) (V := Bool) (Value.int .i64) (fun v => G.bool v) g.2.2.2)])) (fun g => g.2.2.1.length ≤ g.1 ∧ r2.drop g.1 = g.2.1 ∧ s115_l1 a0 a1 a2 r1 g.2.1 g.1 g.2.2.1 g.2.2.2 = some R) (fun g => List.length g.2.1) ⟨rfl, (0, r2, [], []), ⟨rfl, rfl, rfl, rfl, rfl, rfl, rfl, rfl, rfl, trivial⟩, ⟨rfl, rfl, trivial⟩, rfl, ⟨(by first | (simp; done) | (simp; omega)), rfl, hR⟩, trivial⟩ ?_
 ·rintro ⟨k6, t8, x3, x5⟩ ⟨iv1_0, hd, hR⟩
  replace hd : r2.drop k6 = t8 := hd
  replace hR : s115_l1 a0 a1 a2 r1 t8 k6 x3 x5 = some R := hR
  replace iv1_0 : x3.length ≤ k6 := iv1_0
  refine aw_seq ?_
  refine aw_region [.p] ?_
  refine st rfl rfl (eff_lss rfl rfl rfl) rfl ?_
  refine st_nil ?_
  refine len_sl (f := cInt) (l := r2) 18 rfl fun hlz1 => ?_
  refine aw_seq ?_
  refine aw_cond _ rfl (fun h1 => ?_) (fun h1 => ?_)
  ·replace h1 : (decide (((k6 : Nat) : Int) < (List.length r2 : Int))) = true := h1
   obtain ⟨y7, t8, rfl, hx1, hd⟩ := drop_cons hd (decT h1)
   replace h1 := decT h1
   rw [s115_l1] at hR
   try dsimp only at hR
   refine aw_skip ?_
   refine aw_cut_g (γ := (List S154) × (List (Int × Bool))) (fun g => ([(1, .g (G.sl 3 (List.map S151.c a1))), (2, .g (G.sl 3 (List.map S151.c a2))), (3, .g (G.ref [G.int a0.Before, G.int a0.After, G.int a0.Notice, G.int a0.Share, G.sl 1 (List.map cStr a0.Causes), G.int a0.Off, G.int a0.Run])), (7, .omap 14), (8, .g (G.sl 1 (List.map cInt r1))), (9, .osl 9 2 0 (List.length g.1)), (18, .g (G.sl 1 (List.map cInt r2))), (19, .g (G.int (List.length r2 : Int))), (20, .g (G.int ((k6 : Nat) : Int)))], [(9, .arr 155 2 (List.map S154.c g.1)), (14, mpB (K := Int) (V := Bool) (Value.int .i64) (fun v => G.bool v) g.2)])) (fun g => g.1.length ≤ k6 + 1 ∧ s115_j1 (fun k_ z0_ z1_ => s115_l1 a0 a1 a2 r1 t8 k_ z0_ z1_) k6 g.1 g.2 = some R) ?_ ?_
   ·refine aw_block ?_
    refine aw_seq ?_
    refine aw_region [.p, .p, .p] ?_
    refine st rfl rfl (eff_ix (f := cInt) (l := r2) (a := y7) rfl Tryz.underlying82 ty3 rfl rfl (Int.natCast_nonneg _) hx1) rfl ?_
    refine st rfl rfl (eff_load rfl ty3 rfl) rfl ?_
    refine st rfl rfl (eff_assigng rfl rfl) rfl ?_
    refine st_nil ?_
    refine aw_seq ?_
    refine aw_region [.p, .p, .p] ?_
    refine st rfl rfl (eff_moveg rfl rfl) rfl ?_
    refine st rfl rfl (eff_lenM (f := cInt) (l := r1) rfl Tryz.underlying82 rfl) rfl ?_
    refine st rfl rfl (eff_moveg rfl rfl) rfl ?_
    refine st_nil ?_
    refine aw_block ?_
    refine aw_loop_g (γ := Nat × (List Int)) (fun g => ([(1, .g (G.sl 3 (List.map S151.c a1))), (2, .g (G.sl 3 (List.map S151.c a2))), (3, .g (G.ref [G.int a0.Before, G.int a0.After, G.int a0.Notice, G.int a0.Share, G.sl 1 (List.map cStr a0.Causes), G.int a0.Off, G.int a0.Run])), (7, .omap 14), (8, .g (G.sl 1 (List.map cInt r1))), (9, .osl 9 2 0 (List.length x3)), (11, .g (G.int y7)), (18, .g (G.sl 1 (List.map cInt r2))), (19, .g (G.int (List.length r2 : Int))), (20, .g (G.int ((k6 : Nat) : Int))), (24, .g (G.sl 1 (List.map cInt r1))), (25, .g (G.int (List.length r1 : Int))), (26, .g (G.int ((g.1 : Nat) : Int)))], [(9, .arr 155 2 (List.map S154.c x3)), (14, mpB (K := Int) (V := Bool) (Value.int .i64) (fun v => G.bool v) x5)])) (fun g => r1.drop g.1 = g.2 ∧ s115_l2 (fun k_ z0_ z1_ => s115_l1 a0 a1 a2 r1 t8 k_ z0_ z1_) a0 a1 a2 x3 x5 k6 y7 g.2 g.1 = some R) (fun g => List.length g.2) ⟨rfl, (0, r1), ⟨rfl, rfl, rfl, rfl, rfl, rfl, rfl, rfl, rfl, rfl, rfl, rfl, rfl, trivial⟩, ⟨rfl, rfl, trivial⟩, rfl, ⟨rfl, hR⟩, trivial⟩ ?_
    ·rintro ⟨k12, t14⟩ ⟨hd, hR⟩
     replace hd : r1.drop k12 = t14 := hd
     replace hR : s115_l2 (fun k_ z0_ z1_ => s115_l1 a0 a1 a2 r1 t8 k_ z0_ z1_) a0 a1 a2 x3 x5 k6 y7 t14 k12 = some R := hR
     refine aw_seq ?_
     refine aw_region [.p] ?_
     refine st rfl rfl (eff_lss rfl rfl rfl) rfl ?_
     refine st_nil ?_
     refine len_sl (f := cInt) (l := r1) 8 rfl fun hlz2 => ?_
     refine aw_seq ?_
     refine aw_cond _ rfl (fun h3 => ?_) (fun h3 => ?_)
     ·replace h3 : (decide (((k12 : Nat) : Int) < (List.length r1 : Int))) = true := h3
      obtain ⟨y13, t14, rfl, hx2, hd⟩ := drop_cons hd (decT h3)
      replace h3 := decT h3
      rw [s115_l2] at hR
      try dsimp only at hR
      refine aw_skip ?_
      refine aw_seq ?_
      refine aw_block ?_
      refine aw_seq ?_
      refine aw_region [.p, .p, .p] ?_
      refine st rfl rfl (eff_ix (f := cInt) (l := r1) (a := y13) rfl Tryz.underlying82 ty3 rfl rfl (Int.natCast_nonneg _) hx2) rfl ?_
      refine st rfl rfl (eff_load rfl ty3 rfl) rfl ?_
      refine st rfl rfl (eff_assigng rfl rfl) rfl ?_
      refine st_nil ?_
      refine aw_seq ?_
      obtain ⟨y15, by15, hR⟩ := bindO_inv hR
      obtain ⟨y16, by16, hR⟩ := bindO_inv hR
      refine aw_draw [.p, .p, .r, .p, .p, .p, .p, .p, .p, .p, .p, .p, .p, .p, .p, .p] (by kernel_rfl) ?_
      refine st rfl rfl (eff_moveM rfl rfl) rfl ?_
      refine st rfl rfl (eff_moveg rfl rfl) rfl ?_
      refine st_r rfl rfl (eff_lookup (kf := Value.int .i64) (vf := (fun v => G.bool v)) (m := x5) (k := y13) (z := false) rfl Tryz.underlying220 Tryz.underlying3 zr4 (fun _ _ => rfl) rfl rfl rfl) rfl ?_
      refine st rfl rfl (eff_not rfl rfl) rfl ?_
      refine st rfl rfl (eff_moveg rfl rfl) rfl ?_
      refine st_g rfl rfl rfl (gb_bool _ _) (fun h => eff_loadA rfl ty24 rfl rfl rfl) rfl ?_
      refine st_g rfl rfl rfl (gb_bool _ _) (fun h => eff_moveg rfl rfl) rfl ?_
      refine st_g rfl rfl rfl (gb_bool _ _) (fun h => eff_moveg rfl rfl) rfl ?_
      refine st_g rfl rfl rfl (gb_bool _ _) (fun h => eff_ix (f := S151.c) (l := a1) (a := y15) rfl Tryz.underlying25 ty152 (gd h rfl) (gd h rfl) (ixO_nn (condT1 by15 h)) (ixO_get (condT1 by15 h))) rfl ?_
      refine st_g rfl rfl rfl (gb_bool _ _) (fun h => eff_loadA rfl ty152 (gd h rfl) rfl rfl) rfl ?_
      refine st_g rfl rfl rfl (gb_bool _ _) (fun h => eff_moveg rfl rfl) rfl ?_
      refine st_g rfl rfl rfl (gb_bool _ _) (fun h => eff_moveg rfl rfl) rfl ?_
      refine st_g rfl rfl rfl (gb_bool _ _) (fun h => eff_ix (f := S151.c) (l := a2) (a := y16) rfl Tryz.underlying25 ty152 (gd h rfl) (gd h rfl) (ixO_nn (condT1 by16 h)) (ixO_get (condT1 by16 h))) rfl ?_
      refine st_g rfl rfl rfl (gb_bool _ _) (fun h => eff_loadA rfl ty152 (gd h rfl) rfl rfl) rfl ?_
      refine st_g rfl rfl rfl (gb_bool _ _) (fun h => eff_call rfl K142 rfl (c142 a0 y15 y16) (ag_cons (gd h rfl) (ag_cons (gd h rfl) (ag_cons (gd h rfl) ag_nil)))) rfl ?_
      refine st rfl rfl (eff_and rfl rfl rfl rfl) rfl ?_
      refine st_nil ?_
      refine aw_cond _ rfl (fun h5 => ?_) (fun h5 => ?_)
      ·replace h5 : ((!(mgetD x5 y13 false)) && (s142 a0 y15 y16)) = true := h5
       replace hR := condT hR h5
       try simp only [Bool.or_eq_true, Bool.and_eq_true, Bool.or_eq_false_iff, Bool.and_eq_false_iff, Bool.not_eq_true', Bool.not_eq_false', decide_eq_true_eq, decide_eq_false_iff_not] at h5
       refine aw_seq ?_
       refine aw_region [.p, .p, .w] ?_
       refine st rfl rfl (eff_moveM rfl rfl) rfl ?_
       refine st rfl rfl (eff_moveg rfl rfl) rfl ?_
       refine st_wn rfl rfl (eff_update (kf := Value.int .i64) (vf := (fun v => G.bool v)) (m := x5) (k := y13) (v := true) (ins := false) rfl Tryz.underlying220 Tryz.underlying3 rfl rfl rfl rfl) ?_
       refine st_nil ?_
       refine aw_seq ?_
       refine aw_region [.p, .p, .p, .p, .p, .k, .p] ?_
       refine st rfl rfl (eff_moveO rfl rfl) rfl ?_
       refine st rfl rfl (eff_moveg rfl rfl) rfl ?_
       refine st rfl rfl (eff_moveg rfl rfl) rfl ?_
       refine st rfl rfl (eff_build rfl z155 rfl pl155 (pb_cons rfl (pb_cons rfl pb_nil)) rfl) rfl ?_
       refine st rfl rfl (eff_buildSlice rfl Tryz.underlying79 ty155 z155 rfl (ps_cons rfl ps_nil) rfl (by exact lens rfl) (by decide)) rfl ?_
       refine st_k rfl rfl (eff_appL (f := S154.c) (out := x3) (new := [(S154.mk y7 y13)]) rfl app79 rfl rfl (src_eq rfl (src_sl (by decide) (by simp [S154.c]))) (refsN rfl) (by simp; omega)) rfl ?_
       refine st rfl rfl (eff_assignO rfl rfl) rfl ?_
       refine st_nil ?_
       refine aw_exit ?_
       exact ⟨rfl, (x3 ++ [(S154.mk y7 y13)], mset x5 y13 true), ⟨rfl, rfl, rfl, rfl, rfl, rfl, rfl, rfl, rfl, trivial⟩, ⟨rfl, rfl, trivial⟩, rfl, ⟨(by first | omega | (dsimp only; omega) | (simp at *; done) | (simp at *; omega)), hR⟩, trivial⟩
      ·replace h5 : ((!(mgetD x5 y13 false)) && (s142 a0 y15 y16)) = false := h5
       replace hR := condF hR h5
       try simp only [Bool.or_eq_true, Bool.and_eq_true, Bool.or_eq_false_iff, Bool.and_eq_false_iff, Bool.not_eq_true', Bool.not_eq_false', decide_eq_true_eq, decide_eq_false_iff_not] at h5
       refine aw_skip ?_
       refine aw_region [.p, .p] ?_
       refine st rfl rfl (eff_add rfl rfl rfl (by unfold I64; omega)) rfl ?_
       refine st rfl rfl (eff_moveg rfl rfl) rfl ?_
       refine st_nil ?_
       exact ⟨rfl, (k12 + 1, t14), ⟨rfl, rfl, rfl, rfl, rfl, rfl, rfl, rfl, rfl, rfl, rfl, rfl, rfl, trivial⟩, ⟨rfl, rfl, trivial⟩, rfl, ⟨hd, hR⟩, by simp⟩
     ·replace h3 : (decide (((k12 : Nat) : Int) < (List.length r1 : Int))) = false := h3
      obtain rfl := drop_nil hd (decF h3)
      rw [s115_l2] at hR
      refine aw_exit ?_
      exact ⟨rfl, (x3, x5), ⟨rfl, rfl, rfl, rfl, rfl, rfl, rfl, rfl, rfl, trivial⟩, ⟨rfl, rfl, trivial⟩, rfl, ⟨(by first | omega | (dsimp only; omega) | (simp at *; done) | (simp at *; omega)), hR⟩, trivial⟩
   ·rintro ⟨x9, x10⟩ ⟨jv1_0, hR⟩
    replace jv1_0 : x9.length ≤ k6 + 1 := jv1_0
    replace hR : s115_j1 (fun k_ z0_ z1_ => s115_l1 a0 a1 a2 r1 t8 k_ z0_ z1_) k6 x9 x10 = some R := hR
    unfold s115_j1 at hR
    refine aw_region [.p, .p] ?_
    refine st rfl rfl (eff_add rfl rfl rfl (by unfold I64; omega)) rfl ?_
    refine st rfl rfl (eff_moveg rfl rfl) rfl ?_
    refine st_nil ?_
    exact ⟨rfl, (k6 + 1, t8, x9, x10), ⟨rfl, rfl, rfl, rfl, rfl, rfl, rfl, rfl, rfl, trivial⟩, ⟨rfl, rfl, trivial⟩, rfl, ⟨(by first | omega | (dsimp only; omega) | (simp at *; omega)), hd, hR⟩, by simp⟩
  ·replace h1 : (decide (((k6 : Nat) : Int) < (List.length r2 : Int))) = false := h1
   obtain rfl := drop_nil hd (decF h1)
   rw [s115_l1] at hR
   refine aw_exit ?_
   refine aw_seq ?_
   refine aw_region [.p, .p] ?_
   refine st rfl rfl (eff_moveO rfl rfl) rfl ?_
   refine st rfl rfl (eff_assignO rfl rfl) rfl ?_
   refine st_nil ?_
   refine aw_ret ?_
   obtain rfl := Option.some.inj hR
   exact doneN_own rfl rfl rfl ((List.length_map ..).trans rfl)
theorem c115 {g : List (Nat × List Value)} (a0 : S23) (a1 : List S151) (a2 : List S151) {R : List S154}  (hb1 : a1.length ≤ 12) (hb2 : a2.length ≤ 12) (hR : s115 a0 a1 a2 = some R) : Con (EG g) 115 [G.agg [G.int a0.Before, G.int a0.After, G.int a0.Notice, G.int a0.Share, G.sl 1 (List.map cStr a0.Causes), G.int a0.Off, G.int a0.Run], G.sl 3 (List.map S151.c a1), G.sl 3 (List.map S151.c a2)] (G.sl 2 (List.map S154.c R)) :=
 ConN.con (by decide) (n115 a0 a1 a2 hb1 hb2 hR)

/-- slices.Index[[]int,int] -/
def s190_l1 (a1 : Int) : List Int → Nat → Int
 | [], k2 => (-1)
 | y3 :: t4, k2 => (bif decide (a1 = y3) then ((k2 : Nat) : Int) else s190_l1 a1 t4 (k2 + 1))
def s190 (a0 : List Int) (a1 : Int) : Int :=
 s190_l1 a1 a0 0
theorem c190 {g : List (Nat × List Value)} (a0 : List Int) (a1 : Int)    : Con (EG g) 190 [G.sl 1 (List.map cInt a0), G.int a1] (G.int (s190 a0 a1)) := by
 generalize hR : s190 a0 a1 = R
 unfold s190 at hR
 refine con_of_aw Tryz.func190 rfl rfl fun w0 M0 => ?_
 refine len_sl (f := cInt) (l := a0) 0 rfl fun hla0 => ?_
 refine aw_seq ?_
 refine aw_region [.p] ?_
 refine st rfl rfl (eff_assigng rfl rfl) rfl ?_
 refine st_nil ?_
 refine aw_seq ?_
 refine aw_seq ?_
 refine aw_region [.p, .p, .p] ?_
 refine st rfl rfl (eff_moveg rfl rfl) rfl ?_
 refine st rfl rfl (eff_lenM (f := cInt) (l := a0) rfl Tryz.underlying82 rfl) rfl ?_
 refine st rfl rfl (eff_moveg rfl rfl) rfl ?_
 refine st_nil ?_
 refine aw_block ?_
 refine aw_loop_g (γ := Nat × (List Int)) (fun g => ([(0, .g (G.sl 1 (List.map cInt a0))), (1, .g (G.int a1)), (7, .g (G.int (List.length a0 : Int))), (8, .g (G.int ((g.1 : Nat) : Int)))], [])) (fun g => a0.drop g.1 = g.2 ∧ s190_l1 a1 g.2 g.1 = R) (fun g => List.length g.2) ⟨rfl, (0, a0), ⟨rfl, rfl, rfl, rfl, trivial⟩, trivial, rfl, ⟨rfl, hR⟩, trivial⟩ ?_
 ·rintro ⟨k2, t4⟩ ⟨hd, hR⟩
  replace hd : a0.drop k2 = t4 := hd
  replace hR : s190_l1 a1 t4 k2 = R := hR
  refine aw_seq ?_
  refine aw_region [.p] ?_
  refine st rfl rfl (eff_lss rfl rfl rfl) rfl ?_
  refine st_nil ?_
  refine len_sl (f := cInt) (l := a0) 0 rfl fun hlz1 => ?_
  refine aw_seq ?_
  refine aw_cond _ rfl (fun h1 => ?_) (fun h1 => ?_)
  ·replace h1 : (decide (((k2 : Nat) : Int) < (List.length a0 : Int))) = true := h1
   obtain ⟨y3, t4, rfl, hx1, hd⟩ := drop_cons hd (decT h1)
   replace h1 := decT h1
   rw [s190_l1] at hR
   try dsimp only at hR
   refine aw_skip ?_
   refine aw_seq ?_
   refine aw_block ?_
   refine aw_seq ?_
   refine aw_region [.p, .p] ?_
   refine st rfl rfl (eff_moveg rfl rfl) rfl ?_
   refine st rfl rfl (eff_assigng rfl rfl) rfl ?_
   refine st_nil ?_
   refine aw_seq ?_
   refine aw_region [.p, .p, .p, .p, .p, .p] ?_
   refine st rfl rfl (eff_moveg rfl rfl) rfl ?_
   refine st rfl rfl (eff_moveg rfl rfl) rfl ?_
   refine st rfl rfl (eff_moveg rfl rfl) rfl ?_
   refine st rfl rfl (eff_ix (f := cInt) (l := a0) (a := y3) rfl Tryz.underlying82 ty3 rfl rfl (Int.natCast_nonneg _) hx1) rfl ?_
   refine st rfl rfl (eff_load rfl ty3 rfl) rfl ?_
   refine st rfl rfl (eff_eql rfl rfl rfl) rfl ?_
   refine st_nil ?_
   refine aw_cond _ rfl (fun h3 => ?_) (fun h3 => ?_)
   ·replace h3 : (decide (a1 = y3)) = true := h3
    replace hR := condT hR h3
    try simp only [decide_eq_true_eq] at h3
    refine aw_seq ?_
    refine aw_region [.p, .p] ?_
    refine st rfl rfl (eff_moveg rfl rfl) rfl ?_
    refine st rfl rfl (eff_assigng rfl rfl) rfl ?_
    refine st_nil ?_
    refine aw_ret ?_
    subst hR
    exact res_c rfl (rv_g rfl)
   ·replace h3 : (decide (a1 = y3)) = false := h3
    replace hR := condF hR h3
    try simp only [decide_eq_false_iff_not] at h3
    refine aw_skip ?_
    refine aw_region [.p, .p] ?_
    refine st rfl rfl (eff_add rfl rfl rfl (by unfold I64; omega)) rfl ?_
    refine st rfl rfl (eff_moveg rfl rfl) rfl ?_
    refine st_nil ?_
    exact ⟨rfl, (k2 + 1, t4), ⟨rfl, rfl, rfl, rfl, trivial⟩, trivial, rfl, ⟨hd, hR⟩, by simp⟩
  ·replace h1 : (decide (((k2 : Nat) : Int) < (List.length a0 : Int))) = false := h1
   obtain rfl := drop_nil hd (decF h1)
   rw [s190_l1] at hR
   refine aw_exit ?_
   refine aw_seq ?_
   refine aw_region [.p] ?_
   refine st rfl rfl (eff_assigng rfl rfl) rfl ?_
   refine st_nil ?_
   refine aw_ret ?_
   subst hR
   exact res_c rfl (rv_g rfl)

/-- slices.Contains[[]int,int] -/
def s144 (a0 : List Int) (a1 : Int) : Bool :=
 decide (0 ≤ (s190 a0 a1))
theorem c144 {g : List (Nat × List Value)} (a0 : List Int) (a1 : Int)    : Con (EG g) 144 [G.sl 1 (List.map cInt a0), G.int a1] (G.bool (s144 a0 a1)) := by
 generalize hR : s144 a0 a1 = R
 unfold s144 at hR
 refine con_of_aw Tryz.func144 rfl rfl fun w0 M0 => ?_
 refine len_sl (f := cInt) (l := a0) 0 rfl fun hla0 => ?_
 refine aw_seq ?_
 refine aw_region [.p] ?_
 refine st rfl rfl (eff_assigng rfl rfl) rfl ?_
 refine st_nil ?_
 refine aw_seq ?_
 refine aw_region [.p, .p, .p, .p, .p] ?_
 refine st rfl rfl (eff_moveg rfl rfl) rfl ?_
 refine st rfl rfl (eff_moveg rfl rfl) rfl ?_
 refine st rfl rfl (eff_call rfl K190 rfl (c190 a0 a1) (ag_cons rfl (ag_cons rfl ag_nil))) rfl ?_
 refine st rfl rfl (eff_geq rfl rfl rfl) rfl ?_
 refine st rfl rfl (eff_assigng rfl rfl) rfl ?_
 refine st_nil ?_
 refine aw_ret ?_
 subst hR
 exact res_c rfl (rv_g rfl)

/-- use.rest -/
def s116_j1 (rec1 : (List Int) → Int → List Int) (x2 : Int) (x5 : List Int) : List Int :=
 rec1 x5 (x2 + 1)
def s116_l1 (a1 : List Int) : Nat → (List Int) → Int → List Int
 | 0, x1, x2 => x1
 | k4 + 1, x1, x2 => (bif !(s144 a1 x2) then s116_j1 (fun z0_ z1_ => s116_l1 a1 k4 z0_ z1_) x2 (x1 ++ [x2]) else s116_j1 (fun z0_ z1_ => s116_l1 a1 k4 z0_ z1_) x2 x1)
def s116 (a0 : Int) (a1 : List Int) : List Int :=
 s116_l1 a1 ((a0 - 0).toNat) [] 0
theorem n116 {g : List (Nat × List Value)} (a0 : Int) (a1 : List Int)  (hb : a0 ≤ 12)  : ConN (EG g) 116 [G.int a0, G.sl 1 (List.map cInt a1)] 3 1 (List.map cInt (s116 a0 a1)) := by
 generalize hR : s116 a0 a1 = R
 unfold s116 at hR
 refine conN_of_aw Tryz.func116 rfl rfl fun w0 M0 => ?_
 refine len_sl (f := cInt) (l := a1) 1 rfl fun hla1 => ?_
 refine aw_seq ?_
 refine aw_region [.w] ?_
 refine st_w rfl rfl (eff_nilL 4 3 1 rfl rfl rfl) rfl ?_
 refine st_nil ?_
 refine aw_seq ?_
 refine aw_region [.w] ?_
 refine st_w rfl rfl (eff_nilL 5 3 1 rfl rfl rfl) rfl ?_
 refine st_nil ?_
 refine aw_seq ?_
 refine aw_seq ?_
 refine aw_region [.p, .p] ?_
 refine st rfl rfl (eff_moveg rfl rfl) rfl ?_
 refine st rfl rfl (eff_moveg rfl rfl) rfl ?_
 refine st_nil ?_
 refine aw_block ?_
 refine aw_loop_g (γ := Nat × (List Int) × Int) (fun g => ([(1, .g (G.sl 1 (List.map cInt a1))), (5, .osl 5 1 0 (List.length g.2.1)), (7, .g (G.int a0)), (8, .g (G.int g.2.2))], [(5, .arr 3 1 (List.map cInt g.2.1))])) (fun g => g.1 = (a0 - g.2.2).toNat ∧ 0 ≤ g.2.2 ∧ (g.2.1.length : Int) ≤ g.2.2 ∧ s116_l1 a1 g.1 g.2.1 g.2.2 = R) (fun g => g.1) ⟨rfl, ((a0 - 0).toNat, [], 0), ⟨rfl, rfl, rfl, rfl, trivial⟩, ⟨rfl, trivial⟩, rfl, ⟨rfl, (by first | omega | (dsimp only; omega) | simp), (by first | omega | (dsimp only; omega) | simp), hR⟩, trivial⟩ ?_
 ·rintro ⟨k4, x1, x2⟩ ⟨hk1, iv1_0, iv1_1, hR⟩
  replace hk1 : k4 = (a0 - x2).toNat := hk1
  replace hR : s116_l1 a1 k4 x1 x2 = R := hR
  replace iv1_0 : 0 ≤ x2 := iv1_0
  replace iv1_1 : (x1.length : Int) ≤ x2 := iv1_1
  refine aw_seq ?_
  refine aw_region [.p] ?_
  refine st rfl rfl (eff_lss rfl rfl rfl) rfl ?_
  refine st_nil ?_
  refine aw_seq ?_
  refine aw_cond _ rfl (fun h1 => ?_) (fun h1 => ?_)
  ·replace h1 : (decide (x2 < a0)) = true := h1
   replace h1 := decT h1
   obtain ⟨k4, rfl⟩ : ∃ m, k4 = m + 1 := ⟨k4 - 1, by omega⟩
   rw [s116_l1] at hR
   try dsimp only at hR
   refine aw_skip ?_
   refine aw_cut_g (γ := (List Int)) (fun g => ([(1, .g (G.sl 1 (List.map cInt a1))), (5, .osl 5 1 0 (List.length g)), (7, .g (G.int a0)), (8, .g (G.int x2))], [(5, .arr 3 1 (List.map cInt g))])) (fun g => g.length ≤ x1.length + 1 ∧ s116_j1 (fun z0_ z1_ => s116_l1 a1 k4 z0_ z1_) x2 g = R) ?_ ?_
   ·refine aw_block ?_
    refine aw_seq ?_
    refine aw_region [.p, .p] ?_
    refine st rfl rfl (eff_moveg rfl rfl) rfl ?_
    refine st rfl rfl (eff_assigng rfl rfl) rfl ?_
    refine st_nil ?_
    refine aw_seq ?_
    refine aw_region [.p, .p, .p, .p] ?_
    refine st rfl rfl (eff_moveg rfl rfl) rfl ?_
    refine st rfl rfl (eff_moveg rfl rfl) rfl ?_
    refine st rfl rfl (eff_call rfl K144 rfl (c144 a1 x2) (ag_cons rfl (ag_cons rfl ag_nil))) rfl ?_
    refine st rfl rfl (eff_not rfl rfl) rfl ?_
    refine st_nil ?_
    refine aw_cond _ rfl (fun h3 => ?_) (fun h3 => ?_)
    ·replace h3 : (!(s144 a1 x2)) = true := h3
     replace hR := condT hR h3
     try simp only [Bool.or_eq_true, Bool.and_eq_true, Bool.or_eq_false_iff, Bool.and_eq_false_iff, Bool.not_eq_true', Bool.not_eq_false', decide_eq_true_eq, decide_eq_false_iff_not] at h3
     refine aw_region [.p, .p, .p, .k, .p] ?_
     refine st rfl rfl (eff_moveO rfl rfl) rfl ?_
     refine st rfl rfl (eff_moveg rfl rfl) rfl ?_
     refine st rfl rfl (eff_buildSlice rfl Tryz.underlying82 ty3 z3 rfl (ps_cons rfl ps_nil) rfl (by simp []) (by decide)) rfl ?_
     refine st_k rfl rfl (eff_appL (f := cInt) (out := x1) (new := [x2]) rfl app82 rfl rfl (src_eq rfl (src_sl (by decide) (by simp []))) (refsN rfl) (by simp; omega)) rfl ?_
     refine st rfl rfl (eff_assignO rfl rfl) rfl ?_
     refine st_nil ?_
     exact ⟨rfl, x1 ++ [x2], ⟨rfl, rfl, rfl, rfl, trivial⟩, ⟨rfl, trivial⟩, rfl, ⟨(by first | omega | (dsimp only; omega) | (simp at *; done) | (simp at *; omega)), hR⟩, trivial⟩
    ·replace h3 : (!(s144 a1 x2)) = false := h3
     replace hR := condF hR h3
     try simp only [Bool.or_eq_true, Bool.and_eq_true, Bool.or_eq_false_iff, Bool.and_eq_false_iff, Bool.not_eq_true', Bool.not_eq_false', decide_eq_true_eq, decide_eq_false_iff_not] at h3
     refine aw_skip ?_
     exact ⟨rfl, x1, ⟨rfl, rfl, rfl, rfl, trivial⟩, ⟨rfl, trivial⟩, rfl, ⟨(by first | omega | (dsimp only; omega) | (simp at *; done) | (simp at *; omega)), hR⟩, trivial⟩
   ·rintro x5 ⟨jv1_0, hR⟩
    replace jv1_0 : x5.length ≤ x1.length + 1 := jv1_0
    replace hR : s116_j1 (fun z0_ z1_ => s116_l1 a1 k4 z0_ z1_) x2 x5 = R := hR
    unfold s116_j1 at hR
    refine aw_region [.p, .p] ?_
    refine st rfl rfl (eff_add rfl rfl rfl (by (try dsimp only); unfold I64; omega)) rfl ?_
    refine st rfl rfl (eff_moveg rfl rfl) rfl ?_
    refine st_nil ?_
    exact ⟨rfl, (k4, x5, x2 + 1), ⟨rfl, rfl, rfl, rfl, trivial⟩, ⟨rfl, trivial⟩, rfl, ⟨(by first | omega | (dsimp only; omega) | (simp at *; omega)), (by first | omega | (dsimp only; omega) | (simp at *; omega)), (by first | omega | (dsimp only; omega) | (simp at *; omega)), hR⟩, by simp⟩
  ·replace h1 : (decide (x2 < a0)) = false := h1
   replace h1 := decF h1
   obtain rfl : k4 = 0 := by omega
   rw [s116_l1] at hR
   refine aw_exit ?_
   refine aw_seq ?_
   refine aw_region [.p, .p] ?_
   refine st rfl rfl (eff_moveO rfl rfl) rfl ?_
   refine st rfl rfl (eff_assignO rfl rfl) rfl ?_
   refine st_nil ?_
   refine aw_ret ?_
   subst hR
   exact doneN_own rfl rfl rfl ((List.length_map ..).trans rfl)
theorem c116 {g : List (Nat × List Value)} (a0 : Int) (a1 : List Int)  (hb : a0 ≤ 12)  : Con (EG g) 116 [G.int a0, G.sl 1 (List.map cInt a1)] (G.sl 1 (List.map cInt (s116 a0 a1))) :=
 ConN.con (by decide) (n116 a0 a1 hb)

/-- use.Missed$1 -/
def s118 (a0 : S154) : Int :=
 a0.Slot
theorem c118 {g : List (Nat × List Value)} (a0 : S154)    : Con (EG g) 118 [G.agg [G.int a0.Slot, G.int a0.Record]] (G.int (s118 a0)) := by
 generalize hR : s118 a0 = R
 unfold s118 at hR
 refine con_of_aw Tryz.func118 rfl rfl fun w0 M0 => ?_
 refine aw_seq ?_
 refine aw_region [.p, .p] ?_
 refine st rfl rfl (eff_box rfl rfl) rfl ?_
 refine st rfl rfl (eff_assigng rfl rfl) rfl ?_
 refine st_nil ?_
 refine aw_seq ?_
 refine aw_region [.p, .p, .p] ?_
 refine st rfl rfl (eff_fieldAddr rfl fl155_0 rfl) rfl ?_
 refine st rfl rfl (eff_load rfl ty3 rfl) rfl ?_
 refine st rfl rfl (eff_assigng rfl rfl) rfl ?_
 refine st_nil ?_
 refine aw_ret ?_
 subst hR
 exact res_c rfl (rv_g rfl)

/-- use.Extra$1 -/
def s119 (a0 : S154) : Int :=
 a0.Record
theorem c119 {g : List (Nat × List Value)} (a0 : S154)    : Con (EG g) 119 [G.agg [G.int a0.Slot, G.int a0.Record]] (G.int (s119 a0)) := by
 generalize hR : s119 a0 = R
 unfold s119 at hR
 refine con_of_aw Tryz.func119 rfl rfl fun w0 M0 => ?_
 refine aw_seq ?_
 refine aw_region [.p, .p] ?_
 refine st rfl rfl (eff_box rfl rfl) rfl ?_
 refine st rfl rfl (eff_assigng rfl rfl) rfl ?_
 refine st_nil ?_
 refine aw_seq ?_
 refine aw_region [.p, .p, .p] ?_
 refine st rfl rfl (eff_fieldAddr rfl fl155_1 rfl) rfl ?_
 refine st rfl rfl (eff_load rfl ty3 rfl) rfl ?_
 refine st rfl rfl (eff_assigng rfl rfl) rfl ?_
 refine st_nil ?_
 refine aw_ret ?_
 subst hR
 exact res_c rfl (rv_g rfl)

/-- use.mapped[use.Match,int] -/
def s117_l1 (a1 : S154 → Int) : List S154 → Nat → (List Int) → List Int
 | [], k3, x1 => x1
 | y4 :: t5, k3, x1 => s117_l1 a1 t5 (k3 + 1) (x1 ++ [(a1 y4)])
def s117 (a0 : List S154) (a1 : S154 → Int) : List Int :=
 s117_l1 a1 a0 0 []
theorem n117 {g : List (Nat × List Value)} (a0 : List S154) (a1 : S154 → Int) {ca1 : G} {ia1 : FuncId} {ka1 : List G} (ha1 : FnIs ca1 ia1 ka1) (Ka1 : Known Tryz.prog ia1) (Ha1 : ∀ (x0 : S154), Con (EG g) ia1 ([G.agg [G.int x0.Slot, G.int x0.Record]] ++ ka1) (G.int (a1 x0))) (hb0 : a0.length ≤ 12)  : ConN (EG g) 117 [G.sl 2 (List.map S154.c a0), ca1] 3 1 (List.map cInt (s117 a0 a1)) := by
 generalize hR : s117 a0 a1 = R
 unfold s117 at hR
 refine conN_of_aw Tryz.func117 rfl rfl fun w0 M0 => ?_
 refine len_sl (f := S154.c) (l := a0) 0 rfl fun hla0 => ?_
 refine aw_seq ?_
 refine aw_region [.w] ?_
 refine st_w rfl rfl (eff_nilL 4 3 1 rfl rfl rfl) rfl ?_
 refine st_nil ?_
 refine aw_seq ?_
 refine aw_region [.w] ?_
 refine st_w rfl rfl (eff_nilL 5 3 1 rfl rfl rfl) rfl ?_
 refine st_nil ?_
 refine aw_seq ?_
 refine aw_seq ?_
 refine aw_region [.p, .p, .p] ?_
 refine st rfl rfl (eff_moveg rfl rfl) rfl ?_
 refine st rfl rfl (eff_lenM (f := S154.c) (l := a0) rfl Tryz.underlying79 rfl) rfl ?_
 refine st rfl rfl (eff_moveg rfl rfl) rfl ?_
 refine st_nil ?_
 refine aw_block ?_
 refine aw_loop_g (γ := Nat × (List S154) × (List Int)) (fun g => ([(1, .g (ca1)), (5, .osl 5 1 0 (List.length g.2.2)), (8, .g (G.sl 2 (List.map S154.c a0))), (9, .g (G.int (List.length a0 : Int))), (10, .g (G.int ((g.1 : Nat) : Int)))], [(5, .arr 3 1 (List.map cInt g.2.2))])) (fun g => g.2.2.length ≤ g.1 ∧ a0.drop g.1 = g.2.1 ∧ s117_l1 a1 g.2.1 g.1 g.2.2 = R) (fun g => List.length g.2.1) ⟨rfl, (0, a0, []), ⟨rfl, rfl, rfl, rfl, rfl, trivial⟩, ⟨rfl, trivial⟩, rfl, ⟨(by first | (simp; done) | (simp; omega)), rfl, hR⟩, trivial⟩ ?_
 ·rintro ⟨k3, t5, x1⟩ ⟨iv1_0, hd, hR⟩
  replace hd : a0.drop k3 = t5 := hd
  replace hR : s117_l1 a1 t5 k3 x1 = R := hR
  replace iv1_0 : x1.length ≤ k3 := iv1_0
  refine aw_seq ?_
  refine aw_region [.p] ?_
  refine st rfl rfl (eff_lss rfl rfl rfl) rfl ?_
  refine st_nil ?_
  refine len_sl (f := S154.c) (l := a0) 8 rfl fun hlz1 => ?_
  refine aw_seq ?_
  refine aw_cond _ rfl (fun h1 => ?_) (fun h1 => ?_)
  ·replace h1 : (decide (((k3 : Nat) : Int) < (List.length a0 : Int))) = true := h1
   obtain ⟨y4, t5, rfl, hx1, hd⟩ := drop_cons hd (decT h1)
   replace h1 := decT h1
   rw [s117_l1] at hR
   try dsimp only at hR
   refine aw_skip ?_
   refine aw_seq ?_
   refine aw_block ?_
   refine aw_seq ?_
   refine aw_region [.p, .p, .w, .w] ?_
   refine st rfl rfl (eff_ix (f := S154.c) (l := a0) (a := y4) rfl Tryz.underlying79 ty155 rfl rfl (Int.natCast_nonneg _) hx1) rfl ?_
   refine st rfl rfl (eff_loadA rfl ty155 rfl rfl rfl) rfl ?_
   refine st_w rfl rfl (eff_alloc 7 rfl z155 rfl rfl) rfl ?_
   refine st_wn rfl rfl (eff_store (tv := .g (G.agg [G.int y4.Slot, G.int y4.Record])) rfl ty155 rfl rfl rfl rfl rfl) ?_
   refine st_nil ?_
   refine aw_region [.p, .p, .r, .p, .p, .k, .p] ?_
   refine st rfl rfl (eff_moveO rfl rfl) rfl ?_
   refine st rfl rfl (eff_moveg rfl rfl) rfl ?_
   refine st_r rfl rfl (eff_loadOA rfl ty155 rfl rfl rfl rfl) rfl ?_
   refine st rfl rfl (eff_callf rfl ha1 Ka1 rfl (Ha1 y4) (ag_cons rfl ag_nil)) rfl ?_
   refine st rfl rfl (eff_buildSlice rfl Tryz.underlying82 ty3 z3 rfl (ps_cons rfl ps_nil) rfl (by simp []) (by decide)) rfl ?_
   refine st_k rfl rfl (eff_appL (f := cInt) (out := x1) (new := [(a1 y4)]) rfl app82 rfl rfl (src_eq rfl (src_sl (by decide) (by simp []))) (refsN rfl) (by simp; omega)) rfl ?_
   refine st rfl rfl (eff_assignO rfl rfl) rfl ?_
   refine st_nil ?_
   refine aw_region [.p, .p] ?_
   refine st rfl rfl (eff_add rfl rfl rfl (by unfold I64; omega)) rfl ?_
   refine st rfl rfl (eff_moveg rfl rfl) rfl ?_
   refine st_nil ?_
   exact ⟨rfl, (k3 + 1, t5, x1 ++ [(a1 y4)]), ⟨rfl, rfl, rfl, rfl, rfl, trivial⟩, ⟨rfl, trivial⟩, rfl, ⟨(by first | omega | (dsimp only; omega) | (simp at *; omega)), hd, hR⟩, by simp⟩
  ·replace h1 : (decide (((k3 : Nat) : Int) < (List.length a0 : Int))) = false := h1
   obtain rfl := drop_nil hd (decF h1)
   rw [s117_l1] at hR
   refine aw_exit ?_
   refine aw_seq ?_
   refine aw_region [.p, .p] ?_
   refine st rfl rfl (eff_moveO rfl rfl) rfl ?_
   refine st rfl rfl (eff_assignO rfl rfl) rfl ?_
   refine st_nil ?_
   refine aw_ret ?_
   subst hR
   exact doneN_own rfl rfl rfl ((List.length_map ..).trans rfl)
theorem c117 {g : List (Nat × List Value)} (a0 : List S154) (a1 : S154 → Int) {ca1 : G} {ia1 : FuncId} {ka1 : List G} (ha1 : FnIs ca1 ia1 ka1) (Ka1 : Known Tryz.prog ia1) (Ha1 : ∀ (x0 : S154), Con (EG g) ia1 ([G.agg [G.int x0.Slot, G.int x0.Record]] ++ ka1) (G.int (a1 x0))) (hb0 : a0.length ≤ 12)  : Con (EG g) 117 [G.sl 2 (List.map S154.c a0), ca1] (G.sl 1 (List.map cInt (s117 a0 a1))) :=
 ConN.con (by decide) (n117 a0 a1 ha1 Ka1 Ha1 hb0)

/-- use.checkAll -/
def s113 (a0 : S23) (a1 : List S151) (a2 : List S151) : Int :=
 (s84 [(s23 a0), (s25 a1), (s25 a2)])
theorem c113 {g : List (Nat × List Value)} (a0 : S23) (a1 : List S151) (a2 : List S151)    : Con (EG g) 113 [G.agg [G.int a0.Before, G.int a0.After, G.int a0.Notice, G.int a0.Share, G.sl 1 (List.map cStr a0.Causes), G.int a0.Off, G.int a0.Run], G.sl 3 (List.map S151.c a1), G.sl 3 (List.map S151.c a2)] (G.int (s113 a0 a1 a2)) := by
 generalize hR : s113 a0 a1 a2 = R
 unfold s113 at hR
 refine con_of_aw Tryz.func113 rfl rfl fun w0 M0 => ?_
 refine len_sl (f := S151.c) (l := a1) 1 rfl fun hla1 => ?_
 refine len_sl (f := S151.c) (l := a2) 2 rfl fun hla2 => ?_
 refine aw_seq ?_
 refine aw_region [.p, .p] ?_
 refine st rfl rfl (eff_box rfl rfl) rfl ?_
 refine st rfl rfl (eff_assigng rfl rfl) rfl ?_
 refine st_nil ?_
 refine aw_seq ?_
 refine aw_region [.p, .p, .p, .p, .p, .p, .p, .p, .p] ?_
 refine st rfl rfl (eff_loadA rfl ty24 rfl rfl rfl) rfl ?_
 refine st rfl rfl (eff_call rfl K23 rfl (c23 a0) (ag_cons rfl ag_nil)) rfl ?_
 refine st rfl rfl (eff_moveg rfl rfl) rfl ?_
 refine st rfl rfl (eff_call rfl K25 rfl (c25 a1) (ag_cons rfl ag_nil)) rfl ?_
 refine st rfl rfl (eff_moveg rfl rfl) rfl ?_
 refine st rfl rfl (eff_call rfl K25 rfl (c25 a2) (ag_cons rfl ag_nil)) rfl ?_
 refine st rfl rfl (eff_buildSlice rfl Tryz.underlying170 ty37 z37 rfl (ps_cons rfl (ps_cons rfl (ps_cons rfl ps_nil))) rfl (by simp []) (by decide)) rfl ?_
 refine st rfl rfl (eff_call rfl K84 rfl (c84 [(s23 a0), (s25 a1), (s25 a2)]) (ag_cons rfl ag_nil)) rfl ?_
 refine st rfl rfl (eff_assigng rfl rfl) rfl ?_
 refine st_nil ?_
 refine aw_ret ?_
 subst hR
 exact res_c rfl (rv_g rfl)
end Go.Sim

namespace Go.Sim
/-! ## what the walks ask of the law's words -/
theorem s25_len {l : List S151} (h : s25 l = 0) : l.length ≤ 512 := by
  unfold s25 at h
  by_cases h1 : 512 < l.length
  · rw [decide_eq_true (by omega)] at h; cases h
  · omega
theorem s84_all {l : List Int} (h : s84 l = 0) : ∀ x ∈ l, x = 0 := by
  have key : ∀ (l : List Int) (k : Nat), s84_l1 l k = 0 → ∀ x ∈ l, x = 0 := by
    intro l
    induction l with
    | nil => intro k _ x hx; cases hx
    | cons y l ih =>
      intro k h x hx
      rw [s84_l1] at h
      by_cases hy : y = 0
      · subst hy
        simp at h
        rcases List.mem_cons.1 hx with rfl | hx
        · rfl
        · exact ih _ h x hx
      · simp [hy] at h
  exact key l 0 h
end Go.Sim

set_option linter.unusedSimpArgs false
set_option linter.unusedVariables false
set_option maxRecDepth 10000
namespace Go.Sim
open Go.Proofs


/-- turnroundref09.Possible -/
def s145 (a0 : S23) (a1 : S151) (a2 : S151) : Bool :=
 (((decide (a1.Name = a2.Name)) && (decide (a1.Kind = a2.Kind))) && (decide (IntKind.i64.wrap (a1.Moment - a0.Before) ≤ a2.Moment))) && (decide (a2.Moment ≤ IntKind.i64.wrap (a1.Moment + a0.After)))
/-- turnroundref01.HasInt -/
def s80_l1 (a1 : Int) : List Int → Nat → Bool
 | [], k2 => false
 | y3 :: t4, k2 => (bif decide (y3 = a1) then true else s80_l1 a1 t4 (k2 + 1))
def s80 (a0 : List Int) (a1 : Int) : Bool :=
 s80_l1 a1 a0 0
theorem c80 {g : List (Nat × List Value)} (a0 : List Int) (a1 : Int)    : Con (EG g) 80 [G.sl 1 (List.map cInt a0), G.int a1] (G.bool (s80 a0 a1)) := by
 generalize hR : s80 a0 a1 = R
 unfold s80 at hR
 refine con_of_aw Tryz.func80 rfl rfl fun w0 M0 => ?_
 refine len_sl (f := cInt) (l := a0) 0 rfl fun hla0 => ?_
 refine aw_seq ?_
 refine aw_region [.p] ?_
 refine st rfl rfl (eff_assigng rfl rfl) rfl ?_
 refine st_nil ?_
 refine aw_seq ?_
 refine aw_seq ?_
 refine aw_region [.p] ?_
 refine st rfl rfl (eff_assigng rfl rfl) rfl ?_
 refine st_nil ?_
 refine aw_block ?_
 refine aw_loop_g (γ := Nat × (List Int)) (fun g => ([(0, .g (G.sl 1 (List.map cInt a0))), (1, .g (G.int a1)), (5, .g (G.int ((g.1 : Nat) : Int)))], [])) (fun g => a0.drop g.1 = g.2 ∧ s80_l1 a1 g.2 g.1 = R) (fun g => List.length g.2) ⟨rfl, (0, a0), ⟨rfl, rfl, rfl, trivial⟩, trivial, rfl, ⟨rfl, hR⟩, trivial⟩ ?_
 ·rintro ⟨k2, t4⟩ ⟨hd, hR⟩
  replace hd : a0.drop k2 = t4 := hd
  replace hR : s80_l1 a1 t4 k2 = R := hR
  refine aw_seq ?_
  refine aw_seq ?_
  refine aw_region [.p, .p, .p, .p] ?_
  refine st rfl rfl (eff_moveg rfl rfl) rfl ?_
  refine st rfl rfl (eff_moveg rfl rfl) rfl ?_
  refine st rfl rfl (eff_lenM (f := cInt) (l := a0) rfl Tryz.underlying82 rfl) rfl ?_
  refine st rfl rfl (eff_lss rfl rfl rfl) rfl ?_
  refine st_nil ?_
  refine len_sl (f := cInt) (l := a0) 0 rfl fun hlz1 => ?_
  refine aw_cond _ rfl (fun h1 => ?_) (fun h1 => ?_)
  ·replace h1 : (decide (((k2 : Nat) : Int) < (List.length a0 : Int))) = true := h1
   obtain ⟨y3, t4, rfl, hx1, hd⟩ := drop_cons hd (decT h1)
   replace h1 := decT h1
   rw [s80_l1] at hR
   try dsimp only at hR
   refine aw_skip ?_
   refine aw_seq ?_
   refine aw_block ?_
   refine aw_seq ?_
   refine aw_region [.p, .p, .p, .p, .p, .p] ?_
   refine st rfl rfl (eff_moveg rfl rfl) rfl ?_
   refine st rfl rfl (eff_moveg rfl rfl) rfl ?_
   refine st rfl rfl (eff_ix (f := cInt) (l := a0) (a := y3) rfl Tryz.underlying82 ty3 rfl rfl (Int.natCast_nonneg _) hx1) rfl ?_
   refine st rfl rfl (eff_load rfl ty3 rfl) rfl ?_
   refine st rfl rfl (eff_moveg rfl rfl) rfl ?_
   refine st rfl rfl (eff_eql rfl rfl rfl) rfl ?_
   refine st_nil ?_
   refine aw_cond _ rfl (fun h3 => ?_) (fun h3 => ?_)
   ·replace h3 : (decide (y3 = a1)) = true := h3
    replace hR := condT hR h3
    try simp only [decide_eq_true_eq] at h3
    refine aw_seq ?_
    refine aw_region [.p] ?_
    refine st rfl rfl (eff_assigng rfl rfl) rfl ?_
    refine st_nil ?_
    refine aw_ret ?_
    subst hR
    exact res_c rfl (rv_g rfl)
   ·replace h3 : (decide (y3 = a1)) = false := h3
    replace hR := condF hR h3
    try simp only [decide_eq_false_iff_not] at h3
    refine aw_skip ?_
    refine aw_region [.p, .p, .p] ?_
    refine st rfl rfl (eff_moveg rfl rfl) rfl ?_
    refine st rfl rfl (eff_add rfl rfl rfl (by unfold I64; omega)) rfl ?_
    refine st rfl rfl (eff_assigng rfl rfl) rfl ?_
    refine st_nil ?_
    exact ⟨rfl, (k2 + 1, t4), ⟨rfl, rfl, rfl, trivial⟩, trivial, rfl, ⟨hd, hR⟩, by simp⟩
  ·replace h1 : (decide (((k2 : Nat) : Int) < (List.length a0 : Int))) = false := h1
   obtain rfl := drop_nil hd (decF h1)
   rw [s80_l1] at hR
   refine aw_exit ?_
   refine aw_seq ?_
   refine aw_region [.p] ?_
   refine st rfl rfl (eff_assigng rfl rfl) rfl ?_
   refine st_nil ?_
   refine aw_ret ?_
   subst hR
   exact res_c rfl (rv_g rfl)

/-- turnroundref01.SameInts -/
def s83_l1 (a1 : List Int) : List Int → Nat → Option Bool
 | [], k2 => some true
 | y3 :: t4, k2 => bindO (ixO a1 ((k2 : Nat) : Int)) fun y5 => (bif decide (y3 ≠ y5) then some false else s83_l1 a1 t4 (k2 + 1))
def s83 (a0 : List Int) (a1 : List Int) : Option Bool :=
 (bif decide ((List.length a0 : Int) ≠ (List.length a1 : Int)) then some false else s83_l1 a1 a0 0)
/-- turnroundref09.Order -/
def s169_l2 (rec1 : Nat → (List Int) → Option (List Int)) (a0 : List S151) (x1 : List Int) (k3 : Nat) (y4 : S151) : Nat → Int → Option (List Int)
 | 0, _ => none
 | k7 + 1, x6 => bindO (bif decide (x6 < (List.length x1 : Int)) then ixO x1 x6 else some default) fun y8 => bindO (bif decide (x6 < (List.length x1 : Int)) then ixO a0 y8 else some default) fun y9 => (bif (decide (x6 < (List.length x1 : Int))) && (decide (y9.Moment ≤ y4.Moment)) then s169_l2 rec1 a0 x1 k3 y4 k7 (x6 + 1) else rec1 (k3 + 1) ((([] ++ (List.take (Int.toNat x6) x1)) ++ [((k3 : Nat) : Int)]) ++ (List.drop (Int.toNat x6) x1)))
def s169_l1 (a0 : List S151) : List S151 → Nat → (List Int) → Option (List Int)
 | [], k3, x1 => some x1
 | y4 :: t5, k3, x1 => s169_l2 (fun k_ z0_ => s169_l1 a0 t5 k_ z0_) a0 x1 k3 y4 ((((List.length x1 : Int) - 0).toNat) + 1) 0
def s169 (a0 : List S151) : Option (List Int) :=
 s169_l1 a0 a0 0 []
/-- turnroundlaw09.checkBoth -/
def s48 (a0 : S23) (a1 : List S151) (a2 : List S151) : Int :=
 (s35 [(s24 (s18 a0)), (s26 (s20 a1)), (s26 (s20 a2))])
theorem c48 {g : List (Nat × List Value)} (a0 : S23) (a1 : List S151) (a2 : List S151)  (hb1 : a1.length * 40 ≤ 140737488351232) (hb2 : a2.length * 40 ≤ 140737488351232)  : Con (EG g) 48 [G.agg [G.int a0.Before, G.int a0.After, G.int a0.Notice, G.int a0.Share, G.sl 1 (List.map cStr a0.Causes), G.int a0.Off, G.int a0.Run], G.sl 3 (List.map S151.c a1), G.sl 3 (List.map S151.c a2)] (G.int (s48 a0 a1 a2)) := by
 generalize hR : s48 a0 a1 a2 = R
 unfold s48 at hR
 refine con_of_aw Tryz.func48 rfl rfl fun w0 M0 => ?_
 refine len_sl (f := S151.c) (l := a1) 1 rfl fun hla1 => ?_
 refine len_sl (f := S151.c) (l := a2) 2 rfl fun hla2 => ?_
 refine aw_seq ?_
 refine aw_region [.p, .p] ?_
 refine st rfl rfl (eff_box rfl rfl) rfl ?_
 refine st rfl rfl (eff_assigng rfl rfl) rfl ?_
 refine st_nil ?_
 refine aw_seq ?_
 refine aw_region [.p, .p, .p, .p, .p, .p, .p, .p, .p, .p, .p, .p] ?_
 refine st rfl rfl (eff_loadA rfl ty24 rfl rfl rfl) rfl ?_
 refine st rfl rfl (eff_call rfl K18 rfl (c18 a0) (ag_cons rfl ag_nil)) rfl ?_
 refine st rfl rfl (eff_call rfl K24 rfl (c24 (s18 a0)) (ag_cons rfl ag_nil)) rfl ?_
 refine st rfl rfl (eff_moveg rfl rfl) rfl ?_
 refine st rfl rfl (eff_call rfl K20 rfl (c20 a1 (by omega)) (ag_cons rfl ag_nil)) rfl ?_
 refine st rfl rfl (eff_call rfl K26 rfl (c26 (s20 a1)) (ag_cons rfl ag_nil)) rfl ?_
 refine st rfl rfl (eff_moveg rfl rfl) rfl ?_
 refine st rfl rfl (eff_call rfl K20 rfl (c20 a2 (by omega)) (ag_cons rfl ag_nil)) rfl ?_
 refine st rfl rfl (eff_call rfl K26 rfl (c26 (s20 a2)) (ag_cons rfl ag_nil)) rfl ?_
 refine st rfl rfl (eff_buildSlice rfl Tryz.underlying82 ty3 z3 rfl (ps_cons rfl (ps_cons rfl (ps_cons rfl ps_nil))) rfl (by simp []) (by decide)) rfl ?_
 refine st rfl rfl (eff_call rfl K35 rfl (c35 [(s24 (s18 a0)), (s26 (s20 a1)), (s26 (s20 a2))]) (ag_cons rfl ag_nil)) rfl ?_
 refine st rfl rfl (eff_assigng rfl rfl) rfl ?_
 refine st_nil ?_
 refine aw_ret ?_
 subst hR
 exact res_c rfl (rv_g rfl)

/-- turnroundlaw09.list -/
def s49 (a0 : List Int) (a1 : Int) (a2 : Int) (a3 : List Int) : Option Bool :=
 (bif decide (a2 ≠ 0) then some ((decide ((List.length a0 : Int) = 0)) && (decide (a1 = a2))) else bindO (bif decide (a1 = 0) then s83 a0 a3 else some default) fun r1 => some ((decide (a1 = 0)) && r1))
/-- turnroundref09.SameMatches -/
def s50_l1 (a1 : List S154) : List S154 → Nat → Option Bool
 | [], k2 => some true
 | y3 :: t4, k2 => bindO (ixO a1 ((k2 : Nat) : Int)) fun y5 => (bif !(eqAnd [decide (y3.Slot = y5.Slot), decide (y3.Record = y5.Record)]) then some false else s50_l1 a1 t4 (k2 + 1))
def s50 (a0 : List S154) (a1 : List S154) : Option Bool :=
 (bif decide ((List.length a0 : Int) ≠ (List.length a1 : Int)) then some false else s50_l1 a1 a0 0)
/-- turnroundlaw09.pairs -/
def s51_l1  : List S154 → Nat → (List S154) → List S154
 | [], k3, x1 => x1
 | y4 :: t5, k3, x1 => s51_l1  t5 (k3 + 1) (x1 ++ [y4])
def s51 (a0 : List S154) : List S154 :=
 s51_l1 a0 0 []
end Go.Sim

namespace Go.Sim
end Go.Sim

set_option linter.unusedSimpArgs false
set_option linter.unusedVariables false
set_option maxRecDepth 10000
namespace Go.Sim
open Go.Proofs


/-- turnroundref09.Made -/
def s120_j1 (rec1 : Nat → (List S154) → (List Int) → Option (List S154)) (k5 : Nat) (x8 : List S154) (x9 : List Int) : Option (List S154) :=
 rec1 (k5 + 1) x8 x9
def s120_j2 (rec2 : Nat → Int → Option (List S154)) (k12 : Nat) (x15 : Int) : Option (List S154) :=
 rec2 (k12 + 1) x15
def s120_l2 (rec1 : Nat → (List S154) → (List Int) → Option (List S154)) (a0 : S23) (a1 : List S151) (a2 : List S151) (x2 : List S154) (x3 : List Int) (k5 : Nat) (y6 : Int) : List S151 → Nat → Int → Option (List S154)
 | [], k12, x10 => (bif decide (0 ≤ x10) then s120_j1 rec1 k5 (x2 ++ [(S154.mk y6 x10)]) (x3 ++ [x10]) else s120_j1 rec1 k5 x2 x3)
 | y13 :: t14, k12, x10 => bindO (ixO a1 y6) fun y16 => bindO (bif ((s145 a0 y16 y13) && (!(s80 x3 ((k12 : Nat) : Int)))) && (!(decide (x10 < 0))) then ixO a2 x10 else some default) fun y17 => (bif ((s145 a0 y16 y13) && (!(s80 x3 ((k12 : Nat) : Int)))) && ((decide (x10 < 0)) || (decide (y13.Moment < y17.Moment))) then s120_j2 (fun k_ z0_ => s120_l2 rec1 a0 a1 a2 x2 x3 k5 y6 t14 k_ z0_) k12 ((k12 : Nat) : Int) else s120_j2 (fun k_ z0_ => s120_l2 rec1 a0 a1 a2 x2 x3 k5 y6 t14 k_ z0_) k12 x10)
def s120_l1 (a0 : S23) (a1 : List S151) (a2 : List S151) : List Int → Nat → (List S154) → (List Int) → Option (List S154)
 | [], k5, x2, x3 => some x2
 | y6 :: t7, k5, x2, x3 => s120_l2 (fun k_ z0_ z1_ => s120_l1 a0 a1 a2 t7 k_ z0_ z1_) a0 a1 a2 x2 x3 k5 y6 a2 0 (-1)
def s120 (a0 : S23) (a1 : List S151) (a2 : List S151) : Option (List S154) :=
 bindO (s169 a1) fun r1 => s120_l1 a0 a1 a2 r1 0 [] []
end Go.Sim

namespace Go.Sim
end Go.Sim

namespace Go.Sim
/-! ## the order of slots, and the matching, in plain words -/
def idxs (n : Nat) : List Int := List.map (fun i : Nat => (i : Int)) (List.range n)
theorem idxs_len (n : Nat) : (idxs n).length = n := by simp [idxs]
theorem mem_idxs {n : Nat} {i : Int} : i ∈ idxs n ↔ 0 ≤ i ∧ i.toNat < n := by
  simp only [idxs, List.mem_map, List.mem_range]
  constructor
  · rintro ⟨a, h, rfl⟩; simp; exact h
  · rintro ⟨h1, h2⟩; exact ⟨i.toNat, h2, by omega⟩
theorem idxs_succ (n : Nat) : idxs (n + 1) = idxs n ++ [(n : Int)] := by simp [idxs, List.range_succ]
theorem idxs_lt (n : Nat) : (idxs n).Pairwise (· < ·) := by
  unfold idxs
  rw [List.pairwise_map]
  exact List.pairwise_lt_range.imp fun h => by omega
theorem idxs_nodup (n : Nat) : (idxs n).Nodup := (idxs_lt n).imp fun h => by omega
theorem ixO_in {α : Type} {l : List α} {i : Int} (h0 : 0 ≤ i) (h : i.toNat < l.length) : ixO l i = some l[i.toNat] := by
  unfold ixO; rw [decide_eq_true h0, cond_true, List.getElem?_eq_getElem h]
theorem ixO_idx {α : Type} {l : List α} {i : Int} (h : i ∈ idxs l.length) : ∃ x, ixO l i = some x ∧ l[i.toNat]? = some x := by
  obtain ⟨h1, h2⟩ := mem_idxs.1 h
  exact ⟨_, ixO_in h1 h2, List.getElem?_eq_getElem h2⟩
theorem ixO_nat {α : Type} {l : List α} {i : Nat} {x : α} (h : l[i]? = some x) : ixO l (i : Int) = some x := by
  unfold ixO; rw [decide_eq_true (by omega), cond_true]; simpa using h

def momI (l : List S151) (i : Int) : Int := match l[i.toNat]? with
  | some s => s.Moment
  | none => 0
theorem momI_of {l : List S151} {i : Int} {x : S151} (h : l[i.toNat]? = some x) : momI l i = x.Moment := by unfold momI; rw [h]
/-- before it, by the moment, then by the index -/
def RelM (l : List S151) (i j : Int) : Prop := momI l i < momI l j ∨ (momI l i = momI l j ∧ i < j)
theorem RelM.tr {l : List S151} (a b c : Int) (h : RelM l a b) (k : RelM l b c) : RelM l a c := by unfold RelM at *; omega
theorem RelM.as {l : List S151} {a b : Int} (h : RelM l a b) (k : RelM l b a) : False := by unfold RelM at *; omega
def ordI (l : List S151) : List Int := isort (fun i j => decide (momI l i < momI l j)) (idxs l.length)
theorem ordI_perm (l : List S151) : (ordI l).Perm (idxs l.length) := isort_perm _ _
theorem ordI_mem {l : List S151} {i : Int} : i ∈ ordI l ↔ i ∈ idxs l.length := (ordI_perm l).mem_iff
theorem ordI_nodup (l : List S151) : (ordI l).Nodup := (ordI_perm l).nodup_iff.2 (idxs_nodup _)
theorem ordI_sorted (l : List S151) : (ordI l).Pairwise (RelM l) := by
  refine isort_sorted RelM.tr ((idxs_lt l.length).imp ?_)
  intro y x hyx
  simp only [decide_eq_true_eq, decide_eq_false_iff_not]
  unfold RelM
  constructor <;> intro h <;> omega
theorem ordI_unique {l : List S151} {Q : List Int} (hp : Q.Perm (idxs l.length)) (hs : Q.Pairwise (RelM l)) : Q = ordI l :=
  sorted_unique (hp.trans (ordI_perm l).symm) hs (ordI_sorted l) fun _ _ _ _ h k => (RelM.as h k).elim

theorem s167_lt (a b : Int) : decide (s167 a b < 0) = decide (a < b) := by
  have h : ∀ x, s202 x = false := fun x => by unfold s202; simp
  unfold s167
  rw [h, h]
  by_cases h1 : a < b
  · simp [h1]
  · by_cases h2 : b < a <;> simp [h1, h2]

/-- the program's order -/
theorem s168_loop (l : List S151) : ∀ (rest : List S151) (k : Nat), s168_l1 l rest k (idxs k ++ List.replicate rest.length 0) = s168_l1 l [] (k + rest.length) (idxs (k + rest.length))
  | [], k => by simp
  | y :: rest, k => by
    have h1 : ixO (idxs k ++ List.replicate (y :: rest).length 0) ((k : Nat) : Int) = some 0 := by
      rw [List.length_cons, List.replicate_succ]; exact ixO_app' (by rw [idxs_len])
    have h2 : List.set (idxs k ++ List.replicate (y :: rest).length 0) (Int.toNat ((k : Nat) : Int)) ((k : Nat) : Int) = idxs (k + 1) ++ List.replicate rest.length 0 := by
      rw [List.length_cons, List.replicate_succ, set_app (by rw [idxs_len]; simp), idxs_succ]
      simp
    conv => lhs; rw [s168_l1, h1]
    simp only [bindO]
    rw [h2, s168_loop l rest (k + 1), List.length_cons]
    have e : k + 1 + rest.length = k + (rest.length + 1) := by omega
    rw [e]
theorem s168_ok (l : List S151) : s168 l = some (ordI l) := by
  unfold s168
  have := s168_loop l l 0
  simp only [Nat.zero_add] at this
  rw [show List.replicate l.length (0 : Int) = idxs 0 ++ List.replicate l.length 0 by simp [idxs], this, s168_l1]
  rw [s203_ok (lt := fun i j => decide (momI l i < momI l j)) (fun y hy x hx => ?_)]
  · rfl
  · obtain ⟨a, ha, ha'⟩ := ixO_idx hx
    obtain ⟨b, hb, hb'⟩ := ixO_idx hy
    refine ⟨s167 a.Moment b.Moment, ?_, ?_⟩
    · simp only [s204, ha, hb, bindO]
    · rw [s167_lt, momI_of ha', momI_of hb']

/-- the reference's order -/
theorem s169_ins (rec1 : Nat → List Int → Option (List Int)) (l : List S151) (k3 : Nat) (y : S151) (A : List Int) : ∀ (B C : List Int) (k : Nat), (∀ b ∈ B, b ∈ idxs l.length) → B.length < k → (∀ c ∈ C, momI l c ≤ y.Moment) →
    ∃ C' D, C ++ B = C' ++ D ∧ (∀ c ∈ C', momI l c ≤ y.Moment) ∧ (∀ d D', D = d :: D' → y.Moment < momI l d) ∧ s169_l2 rec1 l (C ++ B) k3 y k (C.length : Int) = rec1 (k3 + 1) (C' ++ (k3 : Int) :: D)
  | [], C, 0, _, h, _ => by simp at h
  | [], C, k + 1, _, _, hC => by
    refine ⟨C, [], rfl, hC, (fun d D' h => by cases h), ?_⟩
    rw [s169_l2]
    have e : decide ((C.length : Int) < ((C ++ ([] : List Int)).length : Int)) = false := by simp
    simp only [e, cond_false, bindO, Bool.false_and]
    simp
  | b :: B, C, 0, _, h, _ => by simp at h
  | b :: B, C, k + 1, hB, h, hC => by
    obtain ⟨x, hx, hx'⟩ := ixO_idx (hB b List.mem_cons_self)
    have e : decide ((C.length : Int) < ((C ++ b :: B).length : Int)) = true := by simp; omega
    rw [s169_l2]
    simp only [e, cond_true, ixO_app, hx, bindO, Bool.true_and]
    by_cases hm : x.Moment ≤ y.Moment
    · obtain ⟨C', D, h1, h2, h3, h4⟩ := s169_ins rec1 l k3 y A B (C ++ [b]) k (fun z hz => hB z (List.mem_cons_of_mem _ hz)) (by simp at h; omega) (fun c hc => by
        rcases List.mem_append.1 hc with hc | hc
        · exact hC c hc
        · rw [List.mem_singleton.1 hc, momI_of hx']; exact hm)
      refine ⟨C', D, by rw [← h1]; simp, h2, h3, ?_⟩
      rw [decide_eq_true hm, cond_true, ← h4]
      simp
    · refine ⟨C, b :: B, rfl, hC, ?_, ?_⟩
      · intro d D' h; cases h; rw [momI_of hx']; omega
      · rw [decide_eq_false hm, cond_false]
        simp
theorem ins_sorted {l : List S151} {C D : List Int} {k : Nat} {y : S151} (hk : l[k]? = some y) (hs : (C ++ D).Pairwise (RelM l)) (hlt : ∀ z ∈ C ++ D, z < (k : Int)) (hC : ∀ c ∈ C, momI l c ≤ y.Moment) (hD : ∀ d D', D = d :: D' → y.Moment < momI l d) :
    (C ++ (k : Int) :: D).Pairwise (RelM l) := by
  have hm : momI l (k : Int) = y.Moment := momI_of (by simpa using hk)
  obtain ⟨h1, h2, h3⟩ := List.pairwise_append.1 hs
  refine List.pairwise_append.2 ⟨h1, List.pairwise_cons.2 ⟨fun d hd => ?_, h2⟩, fun c hc z hz => ?_⟩
  · cases D with
    | nil => cases hd
    | cons d0 D' =>
      have h4 := hD d0 D' rfl
      rcases List.mem_cons.1 hd with rfl | hd
      · unfold RelM; omega
      · have := (List.pairwise_cons.1 h2).1 d hd
        unfold RelM at *; omega
  · rcases List.mem_cons.1 hz with rfl | hz
    · have := hC c hc
      have := hlt c (List.mem_append_left _ hc)
      unfold RelM; omega
    · exact h3 c hc z hz
theorem s169_loop (l : List S151) : ∀ (rest : List S151) (k : Nat) (P : List Int), l.drop k = rest → P.Perm (idxs k) → P.Pairwise (RelM l) → k + rest.length = l.length → ∃ Q, s169_l1 l rest k P = some Q ∧ Q.Perm (idxs l.length) ∧ Q.Pairwise (RelM l)
  | [], k, P, _, hp, hs, hk => by
    refine ⟨P, by rw [s169_l1], ?_, hs⟩
    have : k = l.length := by simpa using hk
    rw [← this]; exact hp
  | y :: rest, k, P, hd, hp, hs, hk => by
    have hlen : P.length = k := by rw [hp.length_eq, idxs_len]
    have hkl : k < l.length := by simp at hk; omega
    have hy : l[k]? = some y := by
      have : (l.drop k)[0]? = some y := by rw [hd]; rfl
      simpa using this
    have hmem : ∀ b ∈ P, b ∈ idxs l.length := fun b hb => by
      have := mem_idxs.1 (hp.mem_iff.1 hb)
      exact mem_idxs.2 ⟨this.1, by omega⟩
    obtain ⟨C', D, h1, h2, h3, h4⟩ := s169_ins (fun k_ z0_ => s169_l1 l rest k_ z0_) l k y [] P [] (((List.length P : Int) - 0).toNat + 1) hmem (by simp) (fun c hc => by cases hc)
    simp only [List.nil_append] at h1 h4
    have h5 := ins_sorted hy (by rw [← h1]; exact hs) (fun z hz => by
      have := mem_idxs.1 (hp.mem_iff.1 (by rw [h1]; exact hz))
      omega) h2 h3
    have h6 : (C' ++ (k : Int) :: D).Perm (idxs (k + 1)) := by
      rw [idxs_succ]
      refine (List.perm_middle.trans ?_)
      rw [← h1]
      exact (List.Perm.cons _ hp).trans (List.perm_append_singleton _ _).symm
    obtain ⟨Q, q1, q2, q3⟩ := s169_loop l rest (k + 1) _ (by
      have : l.drop (k + 1) = (l.drop k).drop 1 := by rw [List.drop_drop]
      rw [this, hd]; rfl) h6 h5 (by simp at hk; omega)
    refine ⟨Q, ?_, q2, q3⟩
    rw [s169_l1]
    have : s169_l2 (fun k_ z0_ => s169_l1 l rest k_ z0_) l P k y (((List.length P : Int) - 0).toNat + 1) 0 = s169_l1 l rest (k + 1) (C' ++ (k : Int) :: D) := by simpa using h4
    rw [this, q1]
theorem s169_ok (l : List S151) : s169 l = some (ordI l) := by
  obtain ⟨Q, h1, h2, h3⟩ := s169_loop l l 0 [] rfl (by simp [idxs]) List.Pairwise.nil (by simp)
  unfold s169
  rw [h1, ordI_unique h2 h3]
end Go.Sim

namespace Go.Sim
/-! ## the matching: the first free record in order is the best one -/
theorem mget_mset {K V : Type} [DecidableEq K] (m : List (K × V)) (k j : K) (v : V) : mget (mset m k v) j = if k = j then some v else mget m j := by
  induction m with
  | nil => by_cases h : k = j <;> simp [mset, mget, h]
  | cons p m ih =>
    obtain ⟨a, b⟩ := p
    by_cases ha : a = k
    · subst ha
      by_cases h : a = j <;> simp [mset, mget, h]
    · by_cases h : a = j
      · subst h
        have hk : ¬ k = a := fun h => ha h.symm
        simp [mset, mget, ha, hk]
      · simp [mset, mget, ha, h, ih]
theorem mgetD_mset {K V : Type} [DecidableEq K] (m : List (K × V)) (k j : K) (v z : V) : mgetD (mset m k v) j z = if k = j then v else mgetD m j z := by
  unfold mgetD
  rw [mget_mset]
  by_cases h : k = j <;> simp [h]
theorem s80_eq (T : List Int) (j : Int) : s80 T j = decide (j ∈ T) := by
  have key : ∀ (T : List Int) (k : Nat), s80_l1 j T k = decide (j ∈ T) := by
    intro T
    induction T with
    | nil => intro k; simp [s80_l1]
    | cons y T ih =>
      intro k
      rw [s80_l1, ih]
      by_cases h : y = j
      · subst h; simp
      · have h' : ¬ j = y := fun e => h e.symm
        simp [h, h']
  exact key T 0
theorem s142_eq (a0 : S23) (a b : S151) : s142 a0 a b = s145 a0 a b := by
  unfold s142 s145
  have e1 : decide (b.Name = a.Name) = decide (a.Name = b.Name) := by rw [decide_eq_decide]; exact eq_comm
  have e2 : decide (b.Kind = a.Kind) = decide (a.Kind = b.Kind) := by rw [decide_eq_decide]; exact eq_comm
  rw [e1, e2]
  simp [eqAnd]
/-- a record answers a slot -/
def okI (a0 : S23) (u v : List S151) (i k : Int) : Bool := match u[i.toNat]?, v[k.toNat]? with
  | some a, some b => s142 a0 a b
  | _, _ => false
theorem okI_of {a0 : S23} {u v : List S151} {i k : Int} {a b : S151} (h : u[i.toNat]? = some a) (h' : v[k.toNat]? = some b) : okI a0 u v i k = s142 a0 a b := by unfold okI; rw [h, h']

theorem s115_find (rec1 : Nat → List S154 → List (Int × Bool) → Option (List S154)) (a0 : S23) (u v : List S151) (x : List S154) (m : List (Int × Bool)) (k6 : Nat) (i : Int) (hi : i ∈ idxs u.length) : ∀ (l : List Int) (k : Nat), (∀ j ∈ l, j ∈ idxs v.length) →
    s115_l2 rec1 a0 u v x m k6 i l k = match l.find? (fun j => !(mgetD m j false) && okI a0 u v i j) with
      | some j => rec1 (k6 + 1) (x ++ [⟨i, j⟩]) (mset m j true)
      | none => rec1 (k6 + 1) x m
  | [], k, _ => by rw [s115_l2]; rfl
  | j :: l, k, h => by
    obtain ⟨a, ha, ha'⟩ := ixO_idx hi
    obtain ⟨b, hb, hb'⟩ := ixO_idx (h j List.mem_cons_self)
    have ih := s115_find rec1 a0 u v x m k6 i hi l (k + 1) (fun z hz => h z (List.mem_cons_of_mem _ hz))
    rw [s115_l2, List.find?_cons, okI_of ha' hb', ha, hb, ih]
    cases hm : mgetD m j false
    · simp only [Bool.not_false, cond_true, bindO, Bool.true_and]
      cases hs : s142 a0 a b
      · rfl
      · rfl
    · simp only [Bool.not_true, cond_false, bindO, Bool.false_and]

def Best (v : List S151) (P : Int → Bool) (b : Int) (k : Nat) : Prop :=
  (b = -1 ∧ ∀ j ∈ idxs k, P j = false) ∨ (b ∈ idxs k ∧ P b = true ∧ ∀ j ∈ idxs k, P j = true → j ≠ b → RelM v b j)
theorem idxs_mem_succ {k : Nat} {j : Int} (h : j ∈ idxs (k + 1)) : j ∈ idxs k ∨ j = (k : Int) := by
  rw [idxs_succ] at h
  rcases List.mem_append.1 h with h | h
  · exact .inl h
  · exact .inr (List.mem_singleton.1 h)
theorem idxs_mem_up {k : Nat} {j : Int} (h : j ∈ idxs k) : j ∈ idxs (k + 1) := by
  rw [idxs_succ]; exact List.mem_append_left _ h
theorem idxs_mem_last (k : Nat) : (k : Int) ∈ idxs (k + 1) := mem_idxs.2 ⟨by omega, by omega⟩
theorem find_best {v : List S151} {P : Int → Bool} {b : Int} (h : Best v P b v.length) : (ordI v).find? P = if 0 ≤ b then some b else none := by
  rcases h with ⟨rfl, h⟩ | ⟨hb, hp, h⟩
  · rw [if_neg (by omega), List.find?_eq_none]
    intro x hx hpx
    rw [h x (ordI_mem.1 hx)] at hpx
    cases hpx
  · rw [if_pos (mem_idxs.1 hb).1]
    cases hf : (ordI v).find? P with
    | none => exact absurd hp (List.find?_eq_none.1 hf b (ordI_mem.2 hb))
    | some x =>
      obtain ⟨hpx, l1, l2, he, hn⟩ := List.find?_eq_some_iff_append.1 hf
      by_cases hx : x = b
      · rw [hx]
      · have hxm : x ∈ ordI v := by rw [he]; simp
        have h1 := h x (ordI_mem.1 hxm) hpx hx
        have hbm : b ∈ l1 ++ x :: l2 := by rw [← he]; exact ordI_mem.2 hb
        have hs := ordI_sorted v
        rw [he] at hs
        rcases List.mem_append.1 hbm with h2 | h2
        · have := hn b h2
          rw [hp] at this; cases this
        · rcases List.mem_cons.1 h2 with h2 | h2
          · exact absurd h2.symm hx
          · have := (List.pairwise_cons.1 (List.pairwise_append.1 hs).2.1).1 b h2
            exact (RelM.as h1 this).elim

theorem s120_scan (rec1 : Nat → List S154 → List Int → Option (List S154)) (a0 : S23) (u v : List S151) (x : List S154) (T : List Int) (k5 : Nat) (i : Int) (hi : i ∈ idxs u.length) : ∀ (l : List S151) (k : Nat) (b : Int), v.drop k = l → k + l.length = v.length →
    Best v (fun j => !(s80 T j) && okI a0 u v i j) b k →
    ∃ b', Best v (fun j => !(s80 T j) && okI a0 u v i j) b' v.length ∧ s120_l2 rec1 a0 u v x T k5 i l k b = bif decide (0 ≤ b') then rec1 (k5 + 1) (x ++ [⟨i, b'⟩]) (T ++ [b']) else rec1 (k5 + 1) x T
  | [], k, b, hd, hk, hb => by
    refine ⟨b, by rw [← hk]; exact hb, ?_⟩
    rw [s120_l2]; rfl
  | y :: l, k, b, hd, hk, hb => by
    obtain ⟨a, ha, ha'⟩ := ixO_idx hi
    have hy : v[k]? = some y := by
      have : (v.drop k)[0]? = some y := by rw [hd]; rfl
      simpa using this
    have hd' : v.drop (k + 1) = l := by
      have : v.drop (k + 1) = (v.drop k).drop 1 := by rw [List.drop_drop]
      rw [this, hd]; rfl
    have hok : okI a0 u v i (k : Int) = s145 a0 a y := by rw [okI_of ha' (b := y) (by simpa using hy), s142_eq]
    have hmk : momI v (k : Int) = y.Moment := momI_of (by simpa using hy)
    have hkl : k + 1 + l.length = v.length := by simp at hk; omega
    have go : ∀ b1, Best v (fun j => !(s80 T j) && okI a0 u v i j) b1 (k + 1) → s120_l2 rec1 a0 u v x T k5 i (y :: l) k b = s120_l2 rec1 a0 u v x T k5 i l (k + 1) b1 → ∃ b', Best v (fun j => !(s80 T j) && okI a0 u v i j) b' v.length ∧ s120_l2 rec1 a0 u v x T k5 i (y :: l) k b = bif decide (0 ≤ b') then rec1 (k5 + 1) (x ++ [⟨i, b'⟩]) (T ++ [b']) else rec1 (k5 + 1) x T := by
      intro b1 h1 h2
      obtain ⟨b', h3, h4⟩ := s120_scan rec1 a0 u v x T k5 i hi l (k + 1) b1 hd' hkl h1
      exact ⟨b', h3, h2.trans h4⟩
    cases hP : s145 a0 a y && !(s80 T (k : Int))
    · -- this record is out
      have hPk : (!(s80 T (k : Int)) && okI a0 u v i (k : Int)) = false := by rw [hok, Bool.and_comm]; exact hP
      refine go b ?_ (by rw [s120_l2, ha]; simp only [hP, Bool.false_and, cond_false, bindO]; rfl)
      rcases hb with ⟨rfl, h⟩ | ⟨h1, h2, h3⟩
      · refine .inl ⟨rfl, fun j hj => ?_⟩
        rcases idxs_mem_succ hj with hj | rfl
        · exact h j hj
        · exact hPk
      · refine .inr ⟨idxs_mem_up h1, h2, fun j hj hp hne => ?_⟩
        rcases idxs_mem_succ hj with hj | rfl
        · exact h3 j hj hp hne
        · exact absurd hp (by simp only [hPk]; decide)
    · have hPk : (!(s80 T (k : Int)) && okI a0 u v i (k : Int)) = true := by rw [hok, Bool.and_comm]; exact hP
      rcases hb with ⟨rfl, h⟩ | ⟨h1, h2, h3⟩
      · refine go (k : Int) ?_ ?_
        · refine .inr ⟨idxs_mem_last k, hPk, fun j hj hp hne => ?_⟩
          rcases idxs_mem_succ hj with hj | rfl
          · rw [h j hj] at hp; cases hp
          · exact absurd rfl hne
        · rw [s120_l2, ha]; simp only [hP, Bool.true_and, bindO]; rfl
      · obtain ⟨hb0, hbk⟩ := mem_idxs.1 h1
        have hbv : b.toNat < v.length := by omega
        obtain ⟨z, hz, hz'⟩ := ixO_idx (l := v) (mem_idxs.2 ⟨hb0, hbv⟩)
        have hneg : decide (b < 0) = false := decide_eq_false (by omega)
        have hmb : momI v b = z.Moment := momI_of hz'
        by_cases hlt : y.Moment < z.Moment
        · refine go (k : Int) ?_ ?_
          · refine .inr ⟨idxs_mem_last k, hPk, fun j hj hp hne => ?_⟩
            have hkb : RelM v (k : Int) b := .inl (by omega)
            rcases idxs_mem_succ hj with hj | rfl
            · by_cases hjb : j = b
              · rw [hjb]; exact hkb
              · exact RelM.tr _ _ _ hkb (h3 j hj hp hjb)
            · exact absurd rfl hne
          · rw [s120_l2, ha]; simp only [hP, hneg, hz, Bool.true_and, Bool.not_false, cond_true, bindO, Bool.false_or, decide_eq_true hlt]; rfl
        · refine go b ?_ ?_
          · refine .inr ⟨idxs_mem_up h1, h2, fun j hj hp hne => ?_⟩
            rcases idxs_mem_succ hj with hj | rfl
            · exact h3 j hj hp hne
            · by_cases he : y.Moment = z.Moment
              · exact .inr ⟨by omega, by omega⟩
              · exact .inl (by omega)
          · rw [s120_l2, ha]; simp only [hP, hneg, hz, Bool.true_and, Bool.not_false, cond_true, bindO, Bool.false_or, decide_eq_false hlt, cond_false]; rfl

/-- both matchings -/
theorem match_loop (a0 : S23) (u v : List S151) : ∀ (rest : List Int) (k k' : Nat) (x : List S154) (m : List (Int × Bool)) (T : List Int), (∀ i ∈ rest, i ∈ idxs u.length) → (∀ j, mgetD m j false = s80 T j) →
    ∃ M, s115_l1 a0 u v (ordI v) rest k x m = some (x ++ M) ∧ s120_l1 a0 u v rest k' x T = some (x ++ M) ∧ (M.map S154.Slot).Sublist rest ∧ ∀ e ∈ M, e.Record ∈ idxs v.length
  | [], k, k', x, m, T, _, _ => ⟨[], by simp [s115_l1], by simp [s120_l1], by simp, by simp⟩
  | i :: rest, k, k', x, m, T, hr, hm => by
    have hi := hr i List.mem_cons_self
    have hr' : ∀ j ∈ rest, j ∈ idxs u.length := fun j hj => hr j (List.mem_cons_of_mem _ hj)
    obtain ⟨b, hb, h1⟩ := s120_scan (fun k_ z0_ z1_ => s120_l1 a0 u v rest k_ z0_ z1_) a0 u v x T k' i hi v 0 (-1) rfl (by simp) (.inl ⟨rfl, fun j hj => by simp [idxs] at hj⟩)
    have h2 := s115_find (fun k_ z0_ z1_ => s115_l1 a0 u v (ordI v) rest k_ z0_ z1_) a0 u v x m k i hi (ordI v) 0 (fun j hj => ordI_mem.1 hj)
    have hf := find_best hb
    have hfun : (fun j => !(mgetD m j false) && okI a0 u v i j) = fun j => !(s80 T j) && okI a0 u v i j := funext fun j => by rw [hm]
    rw [hfun, hf] at h2
    rw [s115_l1, s120_l1, h1, h2]
    by_cases h0 : 0 ≤ b
    · rw [if_pos h0, decide_eq_true h0, cond_true]
      obtain ⟨M, g1, g2, g3, g4⟩ := match_loop a0 u v rest (k + 1) (k' + 1) (x ++ [⟨i, b⟩]) (mset m b true) (T ++ [b]) hr' (fun j => by
        rw [mgetD_mset, hm, s80_eq, s80_eq]
        by_cases hj : b = j
        · subst hj; simp
        · have : ¬ j = b := fun e => hj e.symm
          simp [hj, this])
      refine ⟨⟨i, b⟩ :: M, by simpa using g1, by simpa using g2, by simpa using g3, ?_⟩
      intro e he
      rcases List.mem_cons.1 he with rfl | he
      · rcases hb with ⟨rfl, _⟩ | ⟨hb, _, _⟩
        · omega
        · exact hb
      · exact g4 e he
    · rw [if_neg h0, decide_eq_false h0, cond_false]
      obtain ⟨M, g1, g2, g3, g4⟩ := match_loop a0 u v rest (k + 1) (k' + 1) x m T hr' hm
      exact ⟨M, g1, g2, g3.cons _, g4⟩
theorem match_ok (a0 : S23) (u v : List S151) : ∃ M, s115 a0 u v = some M ∧ s120 a0 u v = some M ∧ (M.map S154.Slot).Nodup ∧ (∀ e ∈ M, e.Slot ∈ idxs u.length) ∧ ∀ e ∈ M, e.Record ∈ idxs v.length := by
  obtain ⟨M, h1, h2, h3, h4⟩ := match_loop a0 u v (ordI u) 0 0 [] [] [] (fun i hi => ordI_mem.1 hi) (fun j => by simp [mgetD, mget, s80_eq])
  refine ⟨M, ?_, ?_, (ordI_nodup u).sublist h3, fun e he => ordI_mem.1 (h3.subset (List.mem_map_of_mem he)), h4⟩
  · unfold s115
    rw [s168_ok, s168_ok]
    simpa [bindO] using h1
  · unfold s120
    rw [s169_ok]
    simpa [bindO] using h2
end Go.Sim

