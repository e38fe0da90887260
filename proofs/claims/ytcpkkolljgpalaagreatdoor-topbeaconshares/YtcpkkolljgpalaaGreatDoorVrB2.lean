/-
  What is proved: lemmas and contracts of functions on the way to the law topBeaconShares (part 11).
-/
import Derived.Test.YtcpkkolljgpalaaGreatDoorVrB1
import Derived.Test.YtcpkkolljgpalaaGreatDoorVrA9
import Derived.Test.YtcpkkolljgpalaaGreatDoorVrA5
set_option linter.unusedSectionVars false
set_option linter.unusedSimpArgs false
set_option linter.unusedVariables false
set_option linter.unnecessarySimpa false
set_option linter.deprecated false
set_option maxRecDepth 10000
namespace Go.Sim
open Go.Proofs
theorem c58G (a0 : S23) (a1 : List S151) (a2 : List S104) {R : S55 × Int}  (hb : ¬ s122 a0 a1 a2 ≠ 0 → a1.length ≤ 1000 ∧ a2.length ≤ 1000 ∧ SortOk a1) (hc1 : a1.length * 40 ≤ 140737488351232) (hc2 : a2.length * 96 ≤ 140737488351232) (hR : s58 a0 a1 a2 = some R) : Con (EG glT) 20 [G.agg [G.int a0.Before, G.int a0.After, G.int a0.Notice, G.int a0.Share, G.sl 1 (List.map cStr a0.Causes), G.int a0.Off, G.int a0.Run], G.sl 3 (List.map S151.c a1), G.sl 8 (List.map S104.c a2)] (G.tup [G.agg [G.int R.1.Flown, G.int R.1.Due], G.int R.2]) := by
 unfold s58 at hR;refine con_of_aw Tryz.func20 rfl rfl fun w0 M0 => ?_;refine len_sl (f := S151.c) (l := a1) 1 rfl fun hla1 => ?_;refine len_sl (f := S104.c) (l := a2) 2 rfl fun hla2 => ?_;refine aw_seq ?_;refine aw_region [.p, .w, .p] ?_;refine su (eff_box rfl rfl) rfl ?_;refine sw (eff_alloc 6 rfl z56 rfl rfl) rfl ?_;refine sa rfl rfl ?_;refine st_nil ?_;refine aw_seq ?_;refine aw_seq ?_;refine aw_region [.p, .p, .p, .p, .p] ?_;refine su (eff_loadA rfl ty24 rfl rfl rfl) rfl ?_;refine sm rfl rfl ?_;refine sm rfl rfl ?_;refine su (eff_call rfl K122 rfl (c122 a0 a1 a2 iA iA) (ag_cons rfl (ag_cons rfl (ag_cons rfl ag_nil)))) rfl ?_;refine sa rfl rfl ?_;refine st_nil ?_;refine aw_seq ?_;refine aw_region [.p, .p] ?_;refine sm rfl rfl ?_;refine su (eff_neq rfl rfl rfl) rfl ?_;refine st_nil ?_;refine aw_cond _ rfl (fun h1 => ?_) (fun h1 => ?_)
 ·replace h1 : (decide ((s122 a0 a1 a2) ≠ 0)) = true := h1;replace hR := condT hR h1;(try simp only [bB] at h1);refine aw_seq ?_;refine aw_region [.p, .p, .w, .p] ?_;refine su (eff_build rfl z56 rfl pl56 pb_nil rfl) rfl ?_;refine sm rfl rfl ?_;refine st_wn rfl rfl (eff_store (tv := .g (G.agg [G.int 0, G.int 0])) rfl ty56 rfl rfl rfl rfl rfl) ?_;refine sa rfl rfl ?_;refine st_nil ?_;refine aw_ret ?_;obtain rfl := Option.some.inj hR;exact resN rfl ⟨rv_cell rfl rfl ty56 rfl rfl, rv_g rfl, trivial⟩ (by simp)
 ·replace h1 : (decide ((s122 a0 a1 a2) ≠ 0)) = false := h1;replace hR := condF hR h1;(try simp only [bB] at h1);obtain ⟨hb1, hb2, hs1⟩ := hb h1;refine aw_skip ?_;refine aw_seq ?_;refine aw_region [.w] ?_;refine sw (eff_alloc 9 rfl z56 rfl rfl) rfl ?_;refine st_nil ?_;refine aw_seq ?_;refine aw_seq ?_;obtain ⟨r1, br1, hR⟩ := bindO_inv hR;refine aw_region [.p, .p, .p, .p, .p, .p] ?_;refine su (eff_loadA rfl ty24 rfl rfl rfl) rfl ?_;refine sm rfl rfl ?_;refine sm rfl rfl ?_;refine su (eff_call rfl K124 rfl (c124G a0 a1 a2 (by omega) (by omega) hs1 br1) (ag_cons rfl (ag_cons rfl (ag_cons rfl ag_nil)))) rfl ?_;refine su (eff_lenM (f := cInt) (l := r1) rfl Tryz.underlying64 rfl) rfl ?_;refine sm rfl rfl ?_;refine st_nil ?_;refine aw_block ?_;refine aw_loop_g (γ := Nat × (List Int) × Int × Int) (fun g => ([(6, .ptr 6 0), (9, .ptr 9 0), (23, .g (G.sl 1 (List.map cInt r1))), (24, .g (G.int (List.length r1 : Int))), (25, .g (G.int ((g.1 : Nat) : Int)))], [(6, .box [.g (G.int 0), .g (G.int 0)]), (9, .box [.g (G.int g.2.2.1), .g (G.int g.2.2.2)])])) (fun g => r1.drop g.1 = g.2.1 ∧ s58_l1  g.2.1 g.1 g.2.2.1 g.2.2.2 = some R) (fun g => List.length g.2.1) ⟨rfl, (0, r1, 0, 0), ⟨rfl, rfl, rfl, rfl, rfl, trivial⟩, ⟨rfl, rfl, trivial⟩, rfl, ⟨rfl, hR⟩, trivial⟩ ?_
  ·rintro ⟨k5, t7, x3, x4⟩ ⟨hd, hR⟩;replace hd : r1.drop k5 = t7 := hd;replace hR : s58_l1  t7 k5 x3 x4 = some R := hR;refine aw_seq ?_;refine aw_region [.p] ?_;refine su (eff_lss rfl rfl rfl) rfl ?_;refine st_nil ?_;refine len_sl (f := cInt) (l := r1) 23 rfl fun hlz1 => ?_;refine aw_seq ?_;refine aw_cond _ rfl (fun h2 => ?_) (fun h2 => ?_)
   ·replace h2 : (decide (((k5 : Nat) : Int) < (List.length r1 : Int))) = true := h2;obtain ⟨y6, t7, rfl, hx1, hd⟩ := drop_cons hd (decT h2);replace h2 := decT h2;rw [s58_l1] at hR;(try dsimp only at hR);refine aw_skip ?_;refine aw_seq ?_;refine aw_block ?_;refine aw_seq ?_;refine aw_region [.p, .p, .p] ?_;refine su (eff_ix (f := cInt) (l := r1) (a := y6) rfl Tryz.underlying64 ty3 rfl rfl (Int.natCast_nonneg _) hx1) rfl ?_;refine su (eff_load rfl ty3 rfl) rfl ?_;refine sa rfl rfl ?_;refine st_nil ?_;refine aw_region [.p, .w] ?_;refine sm rfl rfl ?_;refine sw (eff_callB1 0 9 rfl K126 rfl (c126 (S55.mk x3 x4) y6) (at_cons rfl rfl (at_cons rfl rfl at_nil)) rfl rfl rfl) rfl ?_;refine st_nil ?_;refine aw_region [.p, .p] ?_;refine su (eff_add rfl rfl rfl iE) rfl ?_;refine sm rfl rfl ?_;refine st_nil ?_;exact ⟨rfl, (k5 + 1, t7, (s126 (S55.mk x3 x4) y6).Flown, (s126 (S55.mk x3 x4) y6).Due), ⟨rfl, rfl, rfl, rfl, rfl, trivial⟩, ⟨rfl, rfl, trivial⟩, rfl, ⟨hd, hR⟩, by simp⟩
   ·replace h2 : (decide (((k5 : Nat) : Int) < (List.length r1 : Int))) = false := h2;obtain rfl := drop_nil hd (decF h2);rw [s58_l1] at hR;refine aw_exit ?_;refine aw_seq ?_;refine aw_region [.r, .w, .p] ?_;refine sr (eff_loadOA rfl ty56 rfl rfl rfl rfl) rfl ?_;refine st_wn rfl rfl (eff_store (tv := .g (G.agg [G.int x3, G.int x4])) rfl ty56 rfl rfl rfl rfl rfl) ?_;refine sa rfl rfl ?_;refine st_nil ?_;refine aw_ret ?_;obtain rfl := Option.some.inj hR;exact resN rfl ⟨rv_cell rfl rfl ty56 rfl rfl, rv_g rfl, trivial⟩ (by simp)
theorem red_hbG {p : S45} {m : Int} {l : List S104} (h : RedP p) (hm0 : 100 ≤ m) (hm1 : m ≤ 1300) (hl : l.length ≤ 1000) : ¬ s122 s2012 ((s29 n97 k68 p m).1) l ≠ 0 →
  (((s29 n97 k68 p m).1).length ≤ 1000 ∧ ∀ r, s124 s2012 ((s29 n97 k68 p m).1) l = some r → Con (EG glT) 37 [G.agg [G.int s2012.Before, G.int s2012.After, G.int s2012.Notice, G.int s2012.Share, G.sl 1 (List.map cStr s2012.Causes), G.int s2012.Off, G.int s2012.Run], G.sl 3 (List.map S151.c ((s29 n97 k68 p m).1)), G.sl 8 (List.map S104.c l)] (G.sl 1 (List.map cInt r))) ∧
  ∀ s ∈ (s29 n97 k68 p m).1, 0 ≤ s.Moment ∧ s.Moment ≤ 143999999 := by
 intro _;rw [s29_red _ _ s87_97 s101_68 h hm0 hm1];have hle := s103_len (m := m) (nm := n97) (kd := k68) h;exact ⟨⟨by show (s103 n97 k68 p m).length ≤ 1000; omega, fun r hr => c124G _ _ _ (by show (s103 n97 k68 p m).length ≤ 1000; omega) hl (.inr (up103 _ _ _ _)) hr⟩, s103_mom h hm0 hm1⟩
theorem sha_hb {p : S45} {m : Int} {l : List S104} (h : RedP p) (hm0 : 100 ≤ m) (hm1 : m ≤ 1300) (hl : l.length ≤ 1000) : ¬ s122 s2012 ((s29 n97 k68 p m).1) l ≠ 0 → ((s29 n97 k68 p m).1).length ≤ 1000 ∧ l.length ≤ 1000 ∧ SortOk ((s29 n97 k68 p m).1) := by
 intro _;rw [s29_red _ _ s87_97 s101_68 h hm0 hm1];have hle := s103_len (m := m) (nm := n97) (kd := k68) h;exact ⟨by show (s103 n97 k68 p m).length ≤ 1000; omega, hl, .inr (up103 _ _ _ _)⟩
theorem flown_len (nm : ByteArray) (M m o : Int) : ∀ (t : List Int) (k : Nat) (x : List S104), (s2019_l1 nm M m o t k x).length ≤ x.length + t.length
 | [], k, x => by rw [s2019_l1]; simp
 | d :: t, k, x => by
  rw [s2019_l1];unfold s2019_j1;have ih := flown_len nm M m o t
  cases s192 M (s180 d) with
  | true =>
   rw [cond_true];refine Nat.le_trans (ih _ _) ?_;rw [List.length_append, List.length_cons]; simp; omega
  | false =>
   rw [cond_false];refine Nat.le_trans (ih _ _) ?_;rw [List.length_cons]; omega
theorem flown_le {nm : ByteArray} {D : List Int} {M m o : Int} (h : (D.length : Int) ≤ 41) : (s2019 nm D M m o).length ≤ 41 := by
 have := flown_len nm M m o D 0 [];unfold s2019
 simp at this
 omega
theorem wk_nn {d : Int} (h : 0 ≤ d) (h1 : d ≤ 1000000) : 0 ≤ s180 d ∧ s180 d ≤ 6 := by
 unfold s180;rw [wrap_i64 (by unfold I64; omega), Int.tmod_eq_emod_of_nonneg (by omega)]
 omega
theorem meet_nn {p q : S45} (h : RedP p) {d : Int} (hd : d ∈ (s2021 p q).1) : 0 ≤ s180 d ∧ s180 d ≤ 6 := by
 unfold s2021 at hd
 cases hc : decide (s152 [s102 p, s102 q] ≠ 0) with
 | true => rw [hc, cond_true] at hd; cases hd
 | false =>
  rw [hc, cond_false] at hd;have hpo := period_ok p h.1;have := dayL_range _ _ _ d (List.mem_filter.1 hd).1;exact wk_nn (by omega) (by omega)
end Go.Sim
