/-
  What is proved: lemmas and contracts of functions on the way to the law groundPairs (part 10).
-/
import Derived.Test.YthhidpjikbhljaaGreatDoorVrA8
import Derived.Test.YthhidpjikbhljaaGreatDoorVrA9
import Derived.Test.YthhidpjikbhljaaGreatDoorVrA7
import Derived.Test.YthhidpjikbhljaaGreatDoorVrA5
set_option linter.unusedSectionVars false
set_option linter.unusedSimpArgs false
set_option linter.unusedVariables false
set_option linter.unnecessarySimpa false
set_option linter.deprecated false
set_option maxRecDepth 10000
namespace Go.Sim
open Go.Proofs
def s1012_j1 (a0 : S1128) (a1 : S1122) (a2 : S1124 × S1124) (x1 : ByteArray) (x2 : Int) (x3 : Int) (x4 : Int) (x5 : ByteArray) : Option Bool :=
 (bif (!(eqAnd [decide ((s1064 a0.Arrival a0.Departure a0.Least a0.Most).1.Name = x1), decide ((s1064 a0.Arrival a0.Departure a0.Least a0.Most).1.Start = x2), decide ((s1064 a0.Arrival a0.Departure a0.Least a0.Most).1.End = x3), decide ((s1064 a0.Arrival a0.Departure a0.Least a0.Most).1.Size = x4), decide ((s1064 a0.Arrival a0.Departure a0.Least a0.Most).1.Terminal = x5)])) || (decide ((s1064 a0.Arrival a0.Departure a0.Least a0.Most).2 ≠ (s1065 a0.Arrival a0.Departure a0.Least a0.Most))) then some false else bindO (s1024 (s1017 [a1])) fun r6 => bindO (s1026 (s1019 [a2.1])) fun r7 => (bif (decide ((s1067 a1 a2.1).2 ≠ (s1040 [r6, r7]))) || (!(((s1067 a1 a2.1).1) == ((decide ((s1040 [r6, r7]) = 0)) && (s1068 a1 a2.1)))) then some false else bindO (s1026 (s1019 [a2.1])) fun r8 => bindO (s1026 (s1019 [a2.2])) fun r9 => some ((decide ((s1069 a2.1 a2.2 a0.Least).2 = (s1040 [r8, r9, (s1058 a0.Least)]))) && (((s1069 a2.1 a2.2 a0.Least).1) == ((decide ((s1040 [r8, r9, (s1058 a0.Least)]) = 0)) && (s1070 a2.1 a2.2 a0.Least))))))
noncomputable def s1012 (a0 : S1128) (a1 : S1122) (a2 : S1124 × S1124) : Option Bool :=
 (bif (((!s1015) || (!(s1020 [a0.Arrival, a0.Departure] 2))) || (!(s1016 (s1017 [a1]) 1))) || (!(s1018 (s1019 [a2.1, a2.2]) 2)) then some s1015 else (bif decide ((s1065 a0.Arrival a0.Departure a0.Least a0.Most) = 0) then s1012_j1 a0 a1 a2 ((s1066 a0.Arrival a0.Departure).Name) ((s1066 a0.Arrival a0.Departure).Start) ((s1066 a0.Arrival a0.Departure).End) ((s1066 a0.Arrival a0.Departure).Size) ((s1066 a0.Arrival a0.Departure).Terminal) else s1012_j1 a0 a1 a2 ByteArray.empty 0 0 0 ByteArray.empty))
theorem c1012 (a0 : S1128) (a1 : S1122) (a2 : S1124 × S1124) {R : Bool}   (hR : s1012 a0 a1 a2 = some R) : Con (EG glT) 12 [G.agg [G.int a0.Arrival.Moment, G.str a0.Arrival.Kind, G.str a0.Arrival.Terminal, G.int a0.Arrival.Seats, G.int a0.Arrival.Size, G.int a0.Arrival.Noise, G.str a0.Arrival.Name, G.int a0.Departure.Moment, G.str a0.Departure.Kind, G.str a0.Departure.Terminal, G.int a0.Departure.Seats, G.int a0.Departure.Size, G.int a0.Departure.Noise, G.str a0.Departure.Name, G.int a0.Least, G.int a0.Most], G.agg [G.str a1.Name, G.int a1.Size, G.str a1.Terminal], G.agg [G.str a2.1.Name, G.int a2.1.Start, G.int a2.1.End, G.int a2.1.Size, G.str a2.1.Terminal, G.str a2.2.Name, G.int a2.2.Start, G.int a2.2.End, G.int a2.2.Size, G.str a2.2.Terminal]] (G.bool R) := by
 unfold s1012 at hR;refine con_of_aw Tryz.func12 rfl rfl fun w0 M0 => ?_;refine aw_seq ?_;refine aw_region [.p, .p, .p, .p] ?_;refine st rfl rfl (eff_box rfl rfl) rfl ?_;refine st rfl rfl (eff_box rfl rfl) rfl ?_;refine st rfl rfl (eff_box rfl rfl) rfl ?_;refine st rfl rfl (eff_assigng rfl rfl) rfl ?_;refine st_nil ?_;refine aw_seq ?_;refine aw_seq ?_;refine aw_region [.p, .p, .p, .p, .p, .p, .p, .p, .p, .p, .p, .p, .p, .p, .p, .p, .p, .p, .p, .p, .p, .p, .p, .p] ?_;refine st rfl rfl (eff_call rfl K1015 rfl (c1015) ag_nil) rfl ?_;refine st rfl rfl (eff_not rfl rfl) rfl ?_;refine st rfl rfl (eff_moveg rfl rfl) rfl ?_;refine st_g rfl rfl rfl (gb_bool _ _) (fun h => eff_fieldAddr rfl fl1129_0 rfl) rfl ?_;refine st_g rfl rfl rfl (gb_bool _ _) (fun h => eff_loadA rfl ty1080 (gd h rfl) rfl rfl) rfl ?_;refine st_g rfl rfl rfl (gb_bool _ _) (fun h => eff_fieldAddr rfl fl1129_1 rfl) rfl ?_;refine st_g rfl rfl rfl (gb_bool _ _) (fun h => eff_loadA rfl ty1080 (gd h rfl) rfl rfl) rfl ?_;refine st_g rfl rfl rfl (gb_bool _ _) (fun h => eff_buildSlice rfl Tryz.underlying25 ty1080 z1080 rfl (ps_cons (gd h rfl) (ps_cons (gd h rfl) ps_nil)) rfl (by simp [S1079.c]) (by decide)) rfl ?_;refine st_g rfl rfl rfl (gb_bool _ _) (fun h => eff_call rfl K1020 rfl (c1020 [a0.Arrival, a0.Departure] 2) (ag_cons (gd h rfl) (ag_cons rfl ag_nil))) rfl ?_;refine st_g rfl rfl rfl (gb_bool _ _) (fun h => eff_not rfl (gd h rfl)) rfl ?_;refine st rfl rfl (eff_or rfl rfl rfl rfl) rfl ?_;refine st rfl rfl (eff_moveg rfl rfl) rfl ?_;refine st_g rfl rfl rfl (gb_bool _ _) (fun h => eff_loadA rfl ty1123 rfl rfl rfl) rfl ?_;refine st_g rfl rfl rfl (gb_bool _ _) (fun h => eff_buildSlice rfl Tryz.underlying22 ty1123 z1123 rfl (ps_cons (gd h rfl) ps_nil) rfl (by simp [S1122.c]) (by decide)) rfl ?_;refine st_g rfl rfl rfl (gb_bool _ _) (fun h => eff_call rfl K1017 rfl (c1017 [a1] (by first | assumption | omega | (simp [copyL_len]; done) | (simp [copyL_len]; omega))) (ag_cons (gd h rfl) ag_nil)) rfl ?_;refine st_g rfl rfl rfl (gb_bool _ _) (fun h => eff_call rfl K1016 rfl (c1016 (s1017 [a1]) 1) (ag_cons (gd h rfl) (ag_cons rfl ag_nil))) rfl ?_;refine st_g rfl rfl rfl (gb_bool _ _) (fun h => eff_not rfl (gd h rfl)) rfl ?_;refine st rfl rfl (eff_or rfl rfl rfl rfl) rfl ?_;refine st rfl rfl (eff_moveg rfl rfl) rfl ?_;refine st_g rfl rfl rfl (gb_bool _ _) (fun h => eff_slRef (f := S1124.c) (l := [a2.1, a2.2]) (a := 0) (c := 2) rfl Tryz.underlying130 ty1125 rfl rfl (fun _ => rfl) rfl (by decide) bnd_none bnd_none (by decide) (by decide)) rfl ?_;refine st_g rfl rfl rfl (gb_bool _ _) (fun h => eff_call rfl K1019 rfl (c1019 [a2.1, a2.2] (by first | assumption | omega | (simp [copyL_len]; done) | (simp [copyL_len]; omega))) (ag_cons (gd h rfl) ag_nil)) rfl ?_;refine st_g rfl rfl rfl (gb_bool _ _) (fun h => eff_call rfl K1018 rfl (c1018 (s1019 [a2.1, a2.2]) 2) (ag_cons (gd h rfl) (ag_cons rfl ag_nil))) rfl ?_;refine st_g rfl rfl rfl (gb_bool _ _) (fun h => eff_not rfl (gd h rfl)) rfl ?_;refine st rfl rfl (eff_or rfl rfl rfl rfl) rfl ?_;refine st_nil ?_;refine aw_cond _ rfl (fun h1 => ?_) (fun h1 => ?_)
 ·replace h1 : ((((!s1015) || (!(s1020 [a0.Arrival, a0.Departure] 2))) || (!(s1016 (s1017 [a1]) 1))) || (!(s1018 (s1019 [a2.1, a2.2]) 2))) = true := h1;replace hR := condT hR h1;(try simp only [Bool.or_eq_true, Bool.and_eq_true, Bool.or_eq_false_iff, Bool.and_eq_false_iff, Bool.not_eq_true', Bool.not_eq_false', decide_eq_true_eq, decide_eq_false_iff_not] at h1);refine aw_seq ?_;refine aw_region [.p, .p] ?_;refine st rfl rfl (eff_call rfl K1015 rfl (c1015) ag_nil) rfl ?_;refine st rfl rfl (eff_assigng rfl rfl) rfl ?_;refine st_nil ?_;refine aw_ret ?_;obtain rfl := Option.some.inj hR;exact res_c rfl (rv_g rfl)
 ·replace h1 : ((((!s1015) || (!(s1020 [a0.Arrival, a0.Departure] 2))) || (!(s1016 (s1017 [a1]) 1))) || (!(s1018 (s1019 [a2.1, a2.2]) 2))) = false := h1;replace hR := condF hR h1;(try simp only [Bool.or_eq_true, Bool.and_eq_true, Bool.or_eq_false_iff, Bool.and_eq_false_iff, Bool.not_eq_true', Bool.not_eq_false', decide_eq_true_eq, decide_eq_false_iff_not] at h1);refine aw_skip ?_;refine aw_seq ?_;refine aw_region [.p, .p, .p, .p, .p, .p, .p, .p, .p, .p, .p, .p, .w, .w, .p] ?_;refine st rfl rfl (eff_fieldAddr rfl fl1129_0 rfl) rfl ?_;refine st rfl rfl (eff_loadA rfl ty1080 rfl rfl rfl) rfl ?_;refine st rfl rfl (eff_fieldAddr rfl fl1129_1 rfl) rfl ?_;refine st rfl rfl (eff_loadA rfl ty1080 rfl rfl rfl) rfl ?_;refine st rfl rfl (eff_fieldAddr rfl fl1129_2 rfl) rfl ?_;refine st rfl rfl (eff_load rfl ty3 rfl) rfl ?_;refine st rfl rfl (eff_fieldAddr rfl fl1129_3 rfl) rfl ?_;refine st rfl rfl (eff_load rfl ty3 rfl) rfl ?_;refine st rfl rfl (eff_call rfl K1064 rfl (c1064 a0.Arrival a0.Departure a0.Least a0.Most) (ag_cons rfl (ag_cons rfl (ag_cons rfl (ag_cons rfl ag_nil))))) rfl ?_;refine st rfl rfl (eff_moveg rfl rfl) rfl ?_;refine st rfl rfl (eff_extract rfl rfl rfl) rfl ?_;refine st rfl rfl (eff_extract rfl rfl rfl) rfl ?_;refine st_w rfl rfl (eff_alloc 7 rfl z1125 rfl rfl) rfl ?_;refine st_wn rfl rfl (eff_store (tv := .g (G.agg [G.str ((s1064 a0.Arrival a0.Departure a0.Least a0.Most).1.Name), G.int ((s1064 a0.Arrival a0.Departure a0.Least a0.Most).1.Start), G.int ((s1064 a0.Arrival a0.Departure a0.Least a0.Most).1.End), G.int ((s1064 a0.Arrival a0.Departure a0.Least a0.Most).1.Size), G.str ((s1064 a0.Arrival a0.Departure a0.Least a0.Most).1.Terminal)])) rfl ty1125 rfl rfl rfl rfl rfl) ?_;refine st rfl rfl (eff_assigng rfl rfl) rfl ?_;refine st_nil ?_;refine aw_seq ?_;refine aw_region [.p, .p, .p, .p, .p, .p, .p, .p, .p, .p] ?_;refine st rfl rfl (eff_fieldAddr rfl fl1129_0 rfl) rfl ?_;refine st rfl rfl (eff_loadA rfl ty1080 rfl rfl rfl) rfl ?_;refine st rfl rfl (eff_fieldAddr rfl fl1129_1 rfl) rfl ?_;refine st rfl rfl (eff_loadA rfl ty1080 rfl rfl rfl) rfl ?_;refine st rfl rfl (eff_fieldAddr rfl fl1129_2 rfl) rfl ?_;refine st rfl rfl (eff_load rfl ty3 rfl) rfl ?_;refine st rfl rfl (eff_fieldAddr rfl fl1129_3 rfl) rfl ?_;refine st rfl rfl (eff_load rfl ty3 rfl) rfl ?_;refine st rfl rfl (eff_call rfl K1065 rfl (c1065 a0.Arrival a0.Departure a0.Least a0.Most) (ag_cons rfl (ag_cons rfl (ag_cons rfl (ag_cons rfl ag_nil))))) rfl ?_;refine st rfl rfl (eff_assigng rfl rfl) rfl ?_;refine st_nil ?_;refine aw_seq ?_;refine aw_region [.w] ?_;refine st_w rfl rfl (eff_alloc 10 rfl z1134 rfl rfl) rfl ?_;refine st_nil ?_;refine aw_cut_g (γ := ByteArray × Int × Int × Int × ByteArray) (fun g => ([(3, .g (G.ref [G.int a0.Arrival.Moment, G.str a0.Arrival.Kind, G.str a0.Arrival.Terminal, G.int a0.Arrival.Seats, G.int a0.Arrival.Size, G.int a0.Arrival.Noise, G.str a0.Arrival.Name, G.int a0.Departure.Moment, G.str a0.Departure.Kind, G.str a0.Departure.Terminal, G.int a0.Departure.Seats, G.int a0.Departure.Size, G.int a0.Departure.Noise, G.str a0.Departure.Name, G.int a0.Least, G.int a0.Most])), (4, .g (G.ref [G.str a1.Name, G.int a1.Size, G.str a1.Terminal])), (5, .g (G.ref [G.str a2.1.Name, G.int a2.1.Start, G.int a2.1.End, G.int a2.1.Size, G.str a2.1.Terminal, G.str a2.2.Name, G.int a2.2.Start, G.int a2.2.End, G.int a2.2.Size, G.str a2.2.Terminal])), (7, .ptr 7 0), (8, .g (G.int ((s1064 a0.Arrival a0.Departure a0.Least a0.Most).2))), (9, .g (G.int (s1065 a0.Arrival a0.Departure a0.Least a0.Most))), (10, .ptr 10 0)], [(7, .box [.g (G.str ((s1064 a0.Arrival a0.Departure a0.Least a0.Most).1.Name)), .g (G.int ((s1064 a0.Arrival a0.Departure a0.Least a0.Most).1.Start)), .g (G.int ((s1064 a0.Arrival a0.Departure a0.Least a0.Most).1.End)), .g (G.int ((s1064 a0.Arrival a0.Departure a0.Least a0.Most).1.Size)), .g (G.str ((s1064 a0.Arrival a0.Departure a0.Least a0.Most).1.Terminal))]), (10, .box [.g (G.str g.1), .g (G.int g.2.1), .g (G.int g.2.2.1), .g (G.int g.2.2.2.1), .g (G.str g.2.2.2.2)])])) (fun g => s1012_j1 a0 a1 a2 g.1 g.2.1 g.2.2.1 g.2.2.2.1 g.2.2.2.2 = some R) ?_ ?_
  ·refine aw_seq ?_;refine aw_region [.p, .p] ?_;refine st rfl rfl (eff_moveg rfl rfl) rfl ?_;refine st rfl rfl (eff_eql rfl rfl rfl) rfl ?_;refine st_nil ?_;refine aw_cond _ rfl (fun h4 => ?_) (fun h4 => ?_)
   ·replace h4 : (decide ((s1065 a0.Arrival a0.Departure a0.Least a0.Most) = 0)) = true := h4;replace hR := condT hR h4;(try simp only [Bool.or_eq_true, Bool.and_eq_true, Bool.or_eq_false_iff, Bool.and_eq_false_iff, Bool.not_eq_true', Bool.not_eq_false', decide_eq_true_eq, decide_eq_false_iff_not] at h4);refine aw_region [.p, .p, .p, .p, .p, .w] ?_;refine st rfl rfl (eff_fieldAddr rfl fl1129_0 rfl) rfl ?_;refine st rfl rfl (eff_loadA rfl ty1080 rfl rfl rfl) rfl ?_;refine st rfl rfl (eff_fieldAddr rfl fl1129_1 rfl) rfl ?_;refine st rfl rfl (eff_loadA rfl ty1080 rfl rfl rfl) rfl ?_;refine st rfl rfl (eff_call rfl K1066 rfl (c1066 a0.Arrival a0.Departure) (ag_cons rfl (ag_cons rfl ag_nil))) rfl ?_;refine st_wn rfl rfl (eff_store (tv := .g (G.agg [G.str ((s1066 a0.Arrival a0.Departure).Name), G.int ((s1066 a0.Arrival a0.Departure).Start), G.int ((s1066 a0.Arrival a0.Departure).End), G.int ((s1066 a0.Arrival a0.Departure).Size), G.str ((s1066 a0.Arrival a0.Departure).Terminal)])) rfl ty1134 rfl rfl rfl rfl rfl) ?_;refine st_nil ?_;exact ⟨rfl, ((s1066 a0.Arrival a0.Departure).Name, (s1066 a0.Arrival a0.Departure).Start, (s1066 a0.Arrival a0.Departure).End, (s1066 a0.Arrival a0.Departure).Size, (s1066 a0.Arrival a0.Departure).Terminal), ⟨rfl, rfl, rfl, rfl, rfl, rfl, rfl, trivial⟩, ⟨rfl, rfl, trivial⟩, rfl, hR, trivial⟩
   ·replace h4 : (decide ((s1065 a0.Arrival a0.Departure a0.Least a0.Most) = 0)) = false := h4;replace hR := condF hR h4;(try simp only [Bool.or_eq_true, Bool.and_eq_true, Bool.or_eq_false_iff, Bool.and_eq_false_iff, Bool.not_eq_true', Bool.not_eq_false', decide_eq_true_eq, decide_eq_false_iff_not] at h4);refine aw_skip ?_;exact ⟨rfl, (ByteArray.empty, 0, 0, 0, ByteArray.empty), ⟨rfl, rfl, rfl, rfl, rfl, rfl, rfl, trivial⟩, ⟨rfl, rfl, trivial⟩, rfl, hR, trivial⟩
  ·rintro ⟨x1, x2, x3, x4, x5⟩ hR;replace hR : s1012_j1 a0 a1 a2 x1 x2 x3 x4 x5 = some R := hR;unfold s1012_j1 at hR;refine aw_seq ?_;refine aw_seq ?_;refine aw_region [.r, .r, .p, .p, .p, .p, .p, .p] ?_;refine st_r rfl rfl (eff_loadOA rfl ty1125 rfl rfl rfl rfl) rfl ?_;refine st_r rfl rfl (eff_loadOA rfl ty1134 rfl rfl rfl rfl) rfl ?_;refine st rfl rfl (eff_aneq [.string ((s1064 a0.Arrival a0.Departure a0.Least a0.Most).1.Name), .int .i64 ((s1064 a0.Arrival a0.Departure a0.Least a0.Most).1.Start), .int .i64 ((s1064 a0.Arrival a0.Departure a0.Least a0.Most).1.End), .int .i64 ((s1064 a0.Arrival a0.Departure a0.Least a0.Most).1.Size), .string ((s1064 a0.Arrival a0.Departure a0.Least a0.Most).1.Terminal)] [.string x1, .int .i64 x2, .int .i64 x3, .int .i64 x4, .string x5] rfl flat1134 rfl rfl rfl rfl rfl) rfl ?_;refine st rfl rfl (eff_moveg rfl rfl) rfl ?_;refine st_g rfl rfl rfl (gb_bool _ _) (fun h => eff_moveg rfl rfl) rfl ?_;refine st_g rfl rfl rfl (gb_bool _ _) (fun h => eff_moveg rfl rfl) rfl ?_;refine st_g rfl rfl rfl (gb_bool _ _) (fun h => eff_neq rfl (gd h rfl) (gd h rfl)) rfl ?_;refine st rfl rfl (eff_or rfl rfl rfl rfl) rfl ?_;refine st_nil ?_;refine aw_cond _ rfl (fun h2 => ?_) (fun h2 => ?_)
   ·replace h2 : ((!(eqAnd [decide ((s1064 a0.Arrival a0.Departure a0.Least a0.Most).1.Name = x1), decide ((s1064 a0.Arrival a0.Departure a0.Least a0.Most).1.Start = x2), decide ((s1064 a0.Arrival a0.Departure a0.Least a0.Most).1.End = x3), decide ((s1064 a0.Arrival a0.Departure a0.Least a0.Most).1.Size = x4), decide ((s1064 a0.Arrival a0.Departure a0.Least a0.Most).1.Terminal = x5)])) || (decide ((s1064 a0.Arrival a0.Departure a0.Least a0.Most).2 ≠ (s1065 a0.Arrival a0.Departure a0.Least a0.Most)))) = true := h2;replace hR := condT hR h2;(try simp only [Bool.or_eq_true, Bool.and_eq_true, Bool.or_eq_false_iff, Bool.and_eq_false_iff, Bool.not_eq_true', Bool.not_eq_false', decide_eq_true_eq, decide_eq_false_iff_not] at h2);refine aw_seq ?_;refine aw_region [.p] ?_;refine st rfl rfl (eff_assigng rfl rfl) rfl ?_;refine st_nil ?_;refine aw_ret ?_;obtain rfl := Option.some.inj hR;exact res_c rfl (rv_g rfl)
   ·replace h2 : ((!(eqAnd [decide ((s1064 a0.Arrival a0.Departure a0.Least a0.Most).1.Name = x1), decide ((s1064 a0.Arrival a0.Departure a0.Least a0.Most).1.Start = x2), decide ((s1064 a0.Arrival a0.Departure a0.Least a0.Most).1.End = x3), decide ((s1064 a0.Arrival a0.Departure a0.Least a0.Most).1.Size = x4), decide ((s1064 a0.Arrival a0.Departure a0.Least a0.Most).1.Terminal = x5)])) || (decide ((s1064 a0.Arrival a0.Departure a0.Least a0.Most).2 ≠ (s1065 a0.Arrival a0.Departure a0.Least a0.Most)))) = false := h2;replace hR := condF hR h2;(try simp only [Bool.or_eq_true, Bool.and_eq_true, Bool.or_eq_false_iff, Bool.and_eq_false_iff, Bool.not_eq_true', Bool.not_eq_false', decide_eq_true_eq, decide_eq_false_iff_not] at h2);refine aw_skip ?_;refine aw_seq ?_;refine aw_region [.p, .p, .p, .p, .p, .p, .p, .p, .p] ?_;refine st rfl rfl (eff_loadA rfl ty1123 rfl rfl rfl) rfl ?_;refine st rfl rfl (eff_ixArr (f := S1124.c) (l := [a2.1, a2.2]) (a := a2.1) rfl Tryz.underlying130 ty1125 rfl rfl (fun _ => rfl) rfl rfl (by decide) rfl) rfl ?_;refine st rfl rfl (eff_loadA rfl ty1125 rfl rfl rfl) rfl ?_;refine st rfl rfl (eff_call rfl K1067 rfl (c1067 a1 a2.1) (ag_cons rfl (ag_cons rfl ag_nil))) rfl ?_;refine st rfl rfl (eff_moveg rfl rfl) rfl ?_;refine st rfl rfl (eff_extract rfl rfl rfl) rfl ?_;refine st rfl rfl (eff_extract rfl rfl rfl) rfl ?_;refine st rfl rfl (eff_assigng rfl rfl) rfl ?_;refine st rfl rfl (eff_assigng rfl rfl) rfl ?_;refine st_nil ?_;refine aw_seq ?_;obtain ⟨r6, br6, hR⟩ := bindO_inv hR;obtain ⟨r7, br7, hR⟩ := bindO_inv hR;refine aw_draw [.p, .p, .p, .p, .p, .p, .p, .p, .p, .p] (by kernel_rfl) ?_;refine st rfl rfl (eff_loadA rfl ty1123 rfl rfl rfl) rfl ?_;refine st rfl rfl (eff_buildSlice rfl Tryz.underlying22 ty1123 z1123 rfl (ps_cons rfl ps_nil) rfl (by simp [S1122.c]) (by decide)) rfl ?_;refine st rfl rfl (eff_call rfl K1017 rfl (c1017 [a1] (by first | assumption | omega | (simp [copyL_len]; done) | (simp [copyL_len]; omega))) (ag_cons rfl ag_nil)) rfl ?_;refine st rfl rfl (eff_call rfl K1024 rfl (c1024 (s1017 [a1]) br6) (ag_cons rfl ag_nil)) rfl ?_;refine st rfl rfl (eff_slRef (f := S1124.c) (l := [a2.1, a2.2]) (a := 0) (c := 1) rfl Tryz.underlying130 ty1125 rfl rfl (fun _ => rfl) rfl (by decide) bnd_none (bnd_some (n := 1) rfl (by decide)) (by decide) (by decide)) rfl ?_;refine st rfl rfl (eff_call rfl K1019 rfl (c1019 [a2.1] (by first | assumption | omega | (simp [copyL_len]; done) | (simp [copyL_len]; omega))) (ag_cons rfl ag_nil)) rfl ?_;refine st rfl rfl (eff_call rfl K1026 rfl (c1026 (s1019 [a2.1]) br7) (ag_cons rfl ag_nil)) rfl ?_;refine st rfl rfl (eff_buildSlice rfl Tryz.underlying51 ty3 z3 rfl (ps_cons rfl (ps_cons rfl ps_nil)) rfl (by simp []) (by decide)) rfl ?_;refine st rfl rfl (eff_call rfl K1040 rfl (c1040 [r6, r7]) (ag_cons rfl ag_nil)) rfl ?_;refine st rfl rfl (eff_assigng rfl rfl) rfl ?_;refine st_nil ?_;refine aw_seq ?_;refine aw_seq ?_;refine aw_region [.p, .p, .p, .p, .p, .p, .p, .p, .p, .p, .p, .p, .p, .p, .p] ?_;refine st rfl rfl (eff_moveg rfl rfl) rfl ?_;refine st rfl rfl (eff_moveg rfl rfl) rfl ?_;refine st rfl rfl (eff_neq rfl rfl rfl) rfl ?_;refine st rfl rfl (eff_moveg rfl rfl) rfl ?_;refine st_g rfl rfl rfl (gb_bool _ _) (fun h => eff_moveg rfl rfl) rfl ?_;refine st_g rfl rfl rfl (gb_bool _ _) (fun h => eff_moveg rfl rfl) rfl ?_;refine st_g rfl rfl rfl (gb_bool _ _) (fun h => eff_eql rfl (gd h rfl) rfl) rfl ?_;refine st_g rfl rfl rfl (gb_bool _ _) (fun h => eff_moveg rfl (gd h rfl)) rfl ?_;refine st_g rfl rfl rfl (gb_if _ _ _) (fun h => eff_loadA rfl ty1123 rfl rfl rfl) rfl ?_;refine st_g rfl rfl rfl (gb_if _ _ _) (fun h => eff_ixArr (f := S1124.c) (l := [a2.1, a2.2]) (a := a2.1) rfl Tryz.underlying130 ty1125 rfl rfl (fun _ => rfl) rfl rfl (by decide) rfl) rfl ?_;refine st_g rfl rfl rfl (gb_if _ _ _) (fun h => eff_loadA rfl ty1125 (gd h rfl) rfl rfl) rfl ?_;refine st_g rfl rfl rfl (gb_if _ _ _) (fun h => eff_call rfl K1068 rfl (c1068 a1 a2.1) (ag_cons (gd h rfl) (ag_cons (gd h rfl) ag_nil))) rfl ?_;refine st_g rfl rfl rfl (gb_bool _ _) (fun h => eff_and rfl (gd h rfl) rfl (gd2 h rfl)) rfl ?_;refine st_g rfl rfl rfl (gb_bool _ _) (fun h => eff_bneq rfl Tryz.underlying4 (gd h rfl) (gd h rfl)) rfl ?_;refine st rfl rfl (eff_or rfl rfl rfl rfl) rfl ?_;refine st_nil ?_;refine aw_cond _ rfl (fun h3 => ?_) (fun h3 => ?_)
    ·replace h3 : ((decide ((s1067 a1 a2.1).2 ≠ (s1040 [r6, r7]))) || (!(((s1067 a1 a2.1).1) == ((decide ((s1040 [r6, r7]) = 0)) && (s1068 a1 a2.1))))) = true := h3;replace hR := condT hR h3;(try simp only [Bool.or_eq_true, Bool.and_eq_true, Bool.or_eq_false_iff, Bool.and_eq_false_iff, Bool.not_eq_true', Bool.not_eq_false', decide_eq_true_eq, decide_eq_false_iff_not] at h3);refine aw_seq ?_;refine aw_region [.p] ?_;refine st rfl rfl (eff_assigng rfl rfl) rfl ?_;refine st_nil ?_;refine aw_ret ?_;obtain rfl := Option.some.inj hR;exact res_c rfl (rv_g rfl)
    ·replace h3 : ((decide ((s1067 a1 a2.1).2 ≠ (s1040 [r6, r7]))) || (!(((s1067 a1 a2.1).1) == ((decide ((s1040 [r6, r7]) = 0)) && (s1068 a1 a2.1))))) = false := h3;replace hR := condF hR h3;(try simp only [Bool.or_eq_true, Bool.and_eq_true, Bool.or_eq_false_iff, Bool.and_eq_false_iff, Bool.not_eq_true', Bool.not_eq_false', decide_eq_true_eq, decide_eq_false_iff_not] at h3);refine aw_skip ?_;refine aw_seq ?_;refine aw_region [.p, .p, .p, .p, .p, .p, .p, .p, .p, .p, .p, .p] ?_;refine st rfl rfl (eff_ixArr (f := S1124.c) (l := [a2.1, a2.2]) (a := a2.1) rfl Tryz.underlying130 ty1125 rfl rfl (fun _ => rfl) rfl rfl (by decide) rfl) rfl ?_;refine st rfl rfl (eff_loadA rfl ty1125 rfl rfl rfl) rfl ?_;refine st rfl rfl (eff_ixArr (f := S1124.c) (l := [a2.1, a2.2]) (a := a2.2) rfl Tryz.underlying130 ty1125 rfl rfl (fun _ => rfl) rfl rfl (by decide) rfl) rfl ?_;refine st rfl rfl (eff_loadA rfl ty1125 rfl rfl rfl) rfl ?_;refine st rfl rfl (eff_fieldAddr rfl fl1129_2 rfl) rfl ?_;refine st rfl rfl (eff_load rfl ty3 rfl) rfl ?_;refine st rfl rfl (eff_call rfl K1069 rfl (c1069 a2.1 a2.2 a0.Least) (ag_cons rfl (ag_cons rfl (ag_cons rfl ag_nil)))) rfl ?_;refine st rfl rfl (eff_moveg rfl rfl) rfl ?_;refine st rfl rfl (eff_extract rfl rfl rfl) rfl ?_;refine st rfl rfl (eff_extract rfl rfl rfl) rfl ?_;refine st rfl rfl (eff_assigng rfl rfl) rfl ?_;refine st rfl rfl (eff_assigng rfl rfl) rfl ?_;refine st_nil ?_;refine aw_seq ?_;obtain ⟨r8, br8, hR⟩ := bindO_inv hR;obtain ⟨r9, br9, hR⟩ := bindO_inv hR;refine aw_draw [.p, .p, .p, .p, .p, .p, .p, .p, .p, .p, .p, .p] (by kernel_rfl) ?_;refine st rfl rfl (eff_slRef (f := S1124.c) (l := [a2.1, a2.2]) (a := 0) (c := 1) rfl Tryz.underlying130 ty1125 rfl rfl (fun _ => rfl) rfl (by decide) bnd_none (bnd_some (n := 1) rfl (by decide)) (by decide) (by decide)) rfl ?_;refine st rfl rfl (eff_call rfl K1019 rfl (c1019 [a2.1] (by first | assumption | omega | (simp [copyL_len]; done) | (simp [copyL_len]; omega))) (ag_cons rfl ag_nil)) rfl ?_;refine st rfl rfl (eff_call rfl K1026 rfl (c1026 (s1019 [a2.1]) br8) (ag_cons rfl ag_nil)) rfl ?_;refine st rfl rfl (eff_slRef (f := S1124.c) (l := [a2.1, a2.2]) (a := 1) (c := 2) rfl Tryz.underlying130 ty1125 rfl rfl (fun _ => rfl) rfl (by decide) (bnd_some (n := 1) rfl (by decide)) bnd_none (by decide) (by decide)) rfl ?_;refine st rfl rfl (eff_call rfl K1019 rfl (c1019 [a2.2] (by first | assumption | omega | (simp [copyL_len]; done) | (simp [copyL_len]; omega))) (ag_cons rfl ag_nil)) rfl ?_;refine st rfl rfl (eff_call rfl K1026 rfl (c1026 (s1019 [a2.2]) br9) (ag_cons rfl ag_nil)) rfl ?_;refine st rfl rfl (eff_fieldAddr rfl fl1129_2 rfl) rfl ?_;refine st rfl rfl (eff_load rfl ty3 rfl) rfl ?_;refine st rfl rfl (eff_call rfl K1058 rfl (c1058 a0.Least) (ag_cons rfl ag_nil)) rfl ?_;refine st rfl rfl (eff_buildSlice rfl Tryz.underlying51 ty3 z3 rfl (ps_cons rfl (ps_cons rfl (ps_cons rfl ps_nil))) rfl (by simp []) (by decide)) rfl ?_;refine st rfl rfl (eff_call rfl K1040 rfl (c1040 [r8, r9, (s1058 a0.Least)]) (ag_cons rfl ag_nil)) rfl ?_;refine st rfl rfl (eff_assigng rfl rfl) rfl ?_;refine st_nil ?_;refine aw_seq ?_;refine aw_region [.p, .p, .p, .p, .p, .p, .p, .p, .p, .p, .p, .p, .p, .p, .p, .p, .p, .p, .p] ?_;refine st rfl rfl (eff_moveg rfl rfl) rfl ?_;refine st rfl rfl (eff_moveg rfl rfl) rfl ?_;refine st rfl rfl (eff_eql rfl rfl rfl) rfl ?_;refine st rfl rfl (eff_moveg rfl rfl) rfl ?_;refine st_g rfl rfl rfl (gb_bool _ _) (fun h => eff_moveg rfl rfl) rfl ?_;refine st_g rfl rfl rfl (gb_bool _ _) (fun h => eff_moveg rfl rfl) rfl ?_;refine st_g rfl rfl rfl (gb_bool _ _) (fun h => eff_eql rfl (gd h rfl) rfl) rfl ?_;refine st_g rfl rfl rfl (gb_bool _ _) (fun h => eff_moveg rfl (gd h rfl)) rfl ?_;refine st_g rfl rfl rfl (gb_if _ _ _) (fun h => eff_ixArr (f := S1124.c) (l := [a2.1, a2.2]) (a := a2.1) rfl Tryz.underlying130 ty1125 rfl rfl (fun _ => rfl) rfl rfl (by decide) rfl) rfl ?_;refine st_g rfl rfl rfl (gb_if _ _ _) (fun h => eff_loadA rfl ty1125 (gd h rfl) rfl rfl) rfl ?_;refine st_g rfl rfl rfl (gb_if _ _ _) (fun h => eff_ixArr (f := S1124.c) (l := [a2.1, a2.2]) (a := a2.2) rfl Tryz.underlying130 ty1125 rfl rfl (fun _ => rfl) rfl rfl (by decide) rfl) rfl ?_;refine st_g rfl rfl rfl (gb_if _ _ _) (fun h => eff_loadA rfl ty1125 (gd h rfl) rfl rfl) rfl ?_;refine st_g rfl rfl rfl (gb_if _ _ _) (fun h => eff_fieldAddr rfl fl1129_2 rfl) rfl ?_;refine st_g rfl rfl rfl (gb_if _ _ _) (fun h => eff_load rfl ty3 (gd h rfl)) rfl ?_;refine st_g rfl rfl rfl (gb_if _ _ _) (fun h => eff_call rfl K1070 rfl (c1070 a2.1 a2.2 a0.Least) (ag_cons (gd h rfl) (ag_cons (gd h rfl) (ag_cons (gd h rfl) ag_nil)))) rfl ?_;refine st_g rfl rfl rfl (gb_bool _ _) (fun h => eff_and rfl (gd h rfl) rfl (gd2 h rfl)) rfl ?_;refine st_g rfl rfl rfl (gb_bool _ _) (fun h => eff_beql rfl Tryz.underlying4 (gd h rfl) (gd h rfl)) rfl ?_;refine st rfl rfl (eff_and rfl rfl rfl rfl) rfl ?_;refine st rfl rfl (eff_assigng rfl rfl) rfl ?_;refine st_nil ?_;refine aw_ret ?_;obtain rfl := Option.some.inj hR;exact res_c rfl (rv_g rfl)
theorem f89_k : ∀ (l : List Int) (k k' : Nat), s89_l1 l k = s89_l1 l k'
 | [], _, _ => rfl
 | x :: l, k, k' => by simp only [s89_l1]; rw [f89_k l (k + 1) (k' + 1)]
theorem s89_nil : s89 [] = 0 := rfl
theorem s89_cons (x : Int) (l : List Int) : s89 (x :: l) = if x = 0 then s89 l else x := by
 unfold s89;simp only [s89_l1];rw [f89_k l (0 + 1) 0]
 by_cases h : x = 0 <;> simp [h]
theorem f1085_k : ∀ (l : List Int) (k : Nat), s1085_l1 l k = s89_l1 l k
 | [], _ => rfl
 | x :: l, k => by simp only [s1085_l1, s89_l1]; rw [f1085_k l (k + 1)]
theorem s1085_eq (l : List Int) : s1085 l = s89 l := f1085_k l 0
theorem s1088_eq (a b c : Int) : s1088 a b c = s90 a b c := rfl
theorem s1098_eq (a : Int) : s1098 a = s96 a := rfl
theorem s90_ite (a b c : Int) : s90 a b c = if b ≤ a ∧ a ≤ c then 0 else 3 := by
 unfold s90
 by_cases h1 : a < b <;> by_cases h2 : c < a <;> simp [h1, h2] <;> omega
theorem s1086_ite (b : Bool) (e : Int) : s1086 b e = if b = true then e else 0 := by cases b <;> rfl
theorem decode_lo {s : ByteArray} {i : Nat} (h : (s.get! i).toNat < 128) : Utf8.decode s i = ((s.get! i).toNat, 1) := by
 unfold Utf8.decode
 simp [h]
theorem decode_hi {s : ByteArray} {i : Nat} (h : 128 ≤ (s.get! i).toNat) : 128 ≤ (Utf8.decode s i).1 := by
 unfold Utf8.decode;simp only [Nat.add_zero];rw [if_neg (by omega)]
 repeat' split
 all_goals first | assumption | (simp [Utf8.runeError]; done) | (rename_i h2; simp only [Bool.and_eq_true, decide_eq_true_eq] at h2; have h3 := h2.1; dsimp only; omega)
theorem get_toList {s : ByteArray} {i : Nat} (h : i < s.data.toList.length) : s.get! i = s.data.toList[i] := by
 have h' : i < s.data.size := by simpa using h
 show s.data[i]! = _;rw [getElem!_pos s.data i h']
 simp
theorem name_loop (s : ByteArray) : ∀ n pos, s.size ≤ pos + n → s147_l1 (runesF s n pos) = s91_l1 (s.data.toList.drop pos) pos := by
 intro n
 induction n with
 | zero =>
  intro pos h;rw [List.drop_eq_nil_of_le (by simpa using h)]; rfl
 | succ n ih =>
  intro pos h;unfold runesF
  split
  ·rename_i hp
   have hl : pos < s.data.toList.length := by simpa using hp
   rw [List.drop_eq_getElem_cons hl, s147_l1, s91_l1, ← get_toList hl]
   rcases Nat.lt_or_ge (s.get! pos).toNat 128 with hb | hb
   ·rw [decode_lo hb, ih (pos + 1) (by omega)];have e1 : (decide (((pos : Nat) : Int) = 0)) = decide ((pos : Int) = 0) := rfl;dsimp only;rw [Bool.or_comm ((decide ((65 : Int) ≤ _)) && _)]
   ·have hb2 := decode_hi hb
    have c1 : (!(((decide ((65 : Int) ≤ ((Utf8.decode s pos).1 : Int))) && (decide (((Utf8.decode s pos).1 : Int) ≤ 90))) || ((decide ((97 : Int) ≤ ((Utf8.decode s pos).1 : Int))) && (decide (((Utf8.decode s pos).1 : Int) ≤ 122))))) = true := by
     simp; omega
    have c2 : (!(((decide ((97 : Int) ≤ ((s.get! pos).toNat : Int))) && (decide (((s.get! pos).toNat : Int) ≤ 122))) || ((decide ((65 : Int) ≤ ((s.get! pos).toNat : Int))) && (decide (((s.get! pos).toNat : Int) ≤ 90))))) = true := by
     simp; omega
    dsimp only;rw [c1, c2]
    have d1 : (decide (((Utf8.decode s pos).1 : Int) ≠ 95) && (decide (((Utf8.decode s pos).1 : Int) < 48) || decide (57 < ((Utf8.decode s pos).1 : Int)))) = true := by simp; omega
    have d2 : (decide (((s.get! pos).toNat : Int) ≠ 95) && (decide (((s.get! pos).toNat : Int) < 48) || decide (57 < ((s.get! pos).toNat : Int)))) = true := by simp; omega
    rw [d1, d2]; simp
  ·rename_i hp
   rw [List.drop_eq_nil_of_le (by simpa using hp)]; rfl
theorem name_eq (s : ByteArray) : s147 s = s91 s := by
 unfold s147 s91 runes;rw [name_loop s _ 0 (by omega)]; rfl
theorem s1089_eq (s : ByteArray) : s1089 s = s1093 s := by
 unfold s1089 s1093; rw [name_eq, s1086_ite, cond_eq_ite]
theorem own_l1 (l : List S1122) (k : Nat) (x : List S1122) : s1017_l1 l k x = x ++ l := by
 induction l generalizing k x with
 | nil => simp [s1017_l1]
 | cons y l ih => simp [s1017_l1, ih]
theorem s1017_eq (l : List S1122) : s1017 l = l := by unfold s1017; rw [own_l1]; rfl
theorem crew_l1 (l : List S1124) (k : Nat) (x : List S1124) : s1019_l1 l k x = x ++ l := by
 induction l generalizing k x with
 | nil => simp [s1019_l1]
 | cons y l ih => simp [s1019_l1, ih]
theorem s1019_eq (l : List S1124) : s1019 l = l := by unfold s1019; rw [crew_l1]; rfl
theorem ixO_at {α : Type} {l : List α} {i : Nat} (h : i < l.length) : ixO l (i : Int) = some l[i] := by
 unfold ixO; rw [decide_eq_true (by omega), cond_true]; simp [h]
theorem seek {α β : Type} {l : List α} {p : α → Bool} {e : β} {b : Option β} (F : Nat → Int → Option β) (h0 : ∀ x, F 0 x = b)
  (h1 : ∀ n x, F (n + 1) x = bindO (ixO l x) fun y => bif p y then some e else F n (x + 1)) : ∀ n i, i + n ≤ l.length →
  F n (i : Int) = bif ((l.drop i).take n).any p then some e else b
 | 0, i, _ => by rw [h0]; rfl
 | n + 1, i, h => by
  have hi : i < l.length := by omega
  rw [h1, ixO_at hi, List.drop_eq_getElem_cons hi, List.take_succ_cons, List.any_cons];have := seek F h0 h1 n (i + 1) (by omega);simp only [bindO];rw [show ((i : Int) + 1) = ((i + 1 : Nat) : Int) by push_cast; rfl, this]
  cases p l[i] <;> simp
theorem index_k {α : Type} (p : α → Bool) (F : List α → Nat → Int) (h0 : ∀ k, F [] k = -1) (h1 : ∀ y t k, F (y :: t) k = bif p y then ((k : Nat) : Int) else F t (k + 1)) :
  ∀ l k, decide (0 ≤ F l k) = l.any p
 | [], k => by rw [h0]; rfl
 | y :: t, k => by
  rw [h1, List.any_cons]
  cases p y with
  | true => simp
  | false => simpa using index_k p F h0 h1 t (k + 1)
theorem s1083_eq (l : List S1122) (p : S1122 → Bool) : s1083 l p = l.any p :=
 index_k p (s1136_l1 p) (fun _ => rfl) (fun _ _ _ => rfl) l 0
theorem s1096_eq (l : List S1124) (p : S1124 → Bool) : s1096 l p = l.any p :=
 index_k p (s1137_l1 p) (fun _ => rfl) (fun _ _ _ => rfl) l 0
theorem stands_l (a : List S1122) : ∀ t k, a.drop k = t → s1024_l1 a t k = some (s1081_l1 a s1082 t k)
 | [], k, _ => rfl
 | y :: t, k, h => by
  have hk : k < a.length := by
   rcases Nat.lt_or_ge k a.length with h1 | h1
   ·exact h1
   ·rw [List.drop_eq_nil_of_le h1] at h; cases h
  have ht : a.drop (k + 1) = t := by rw [← List.drop_drop, h]; rfl
  rw [s1024_l1, s1081_l1];have h3 := seek (l := a) (p := fun z => decide (z.Name = y.Name)) (s1024_l2 (fun k_ => s1024_l1 a t k_) a k y) (b := bif decide ((s89 [(s1092 y.Size), (s1093 y.Terminal)]) ≠ 0) then some (s89 [(s1092 y.Size), (s1093 y.Terminal)]) else s1024_l1 a t (k + 1)) (e := 9) (fun _ => rfl) (fun _ _ => rfl) k 0 (by omega);rw [show (((k : Nat) : Int) - 0).toNat = k by omega, show (0 : Int) = ((0 : Nat) : Int) from rfl, h3, stands_l a t (k + 1) ht]
  have h4 : s1082 y (a.take k) = if s91 y.Name = false then 8 else if (a.take k).any (fun z => decide (z.Name = y.Name)) = true then 9 else s89 [(s1092 y.Size), (s1093 y.Terminal)] := by
   unfold s1082;rw [s1085_eq, s1083_eq, s1086_ite, s1086_ite, name_eq, s1089_eq, s1088_eq];simp only [s89_cons, s89_nil, s1084, s1092]
   cases s91 y.Name <;> simp
   split <;> simp_all
  rw [show Int.toNat ((k : Nat) : Int) = k by omega, h4];generalize s89 [(s1092 y.Size), (s1093 y.Terminal)] = E
  cases hn : s91 y.Name
  ·simp
  ·cases ha : (a.take k).any (fun z => decide (z.Name = y.Name)) <;> simp [ha]
   by_cases hE : E = 0 <;> simp [hE]
theorem stands_eq (a : List S1122) : s1024 a = some (s1023 a) := by
 unfold s1024 s1023 s1081;rw [stands_l a a 0 rfl]
 cases decide (32 < (List.length a : Int)) <;> rfl
theorem turns_l (a : List S1124) : ∀ t k, a.drop k = t → s1026_l1 a t k = some (s1094_l1 a s1095 t k)
 | [], k, _ => rfl
 | y :: t, k, h => by
  have hk : k < a.length := by
   rcases Nat.lt_or_ge k a.length with h1 | h1
   ·exact h1
   ·rw [List.drop_eq_nil_of_le h1] at h; cases h
  have ht : a.drop (k + 1) = t := by rw [← List.drop_drop, h]; rfl
  rw [s1026_l1, s1094_l1];have h3 := seek (l := a) (p := fun z => decide (z.Name = y.Name)) (s1026_l2 (fun k_ => s1026_l1 a t k_) a k y) (b := s1026_l2 (fun k_ => s1026_l1 a t k_) a k y 0 0) (e := 9) (fun _ => rfl) (fun _ _ => rfl) k 0 (by omega);rw [show (((k : Nat) : Int) - 0).toNat = k by omega, show s1026_l2 (fun k_ => s1026_l1 a t k_) a k y k 0 = s1026_l2 (fun k_ => s1026_l1 a t k_) a k y k ((0 : Nat) : Int) from rfl, h3]
  have h4 : s1095 y (a.take k) = if s91 y.Name = false then 8 else if (a.take k).any (fun z => decide (z.Name = y.Name)) = true then 9 else s89 [s96 y.Start, s96 y.End, if y.End < y.Start then 11 else 0, (s1092 y.Size), (s1093 y.Terminal)] := by
   unfold s1095;rw [s1085_eq, s1096_eq, s1086_ite, s1086_ite, s1086_ite, name_eq, s1089_eq, s1088_eq, s1098_eq, s1098_eq];simp only [s89_cons, s89_nil, s1097, s1092, decide_eq_true_eq]
   cases s91 y.Name <;> simp
   split <;> simp_all
  have h5 : s1026_l2 (fun k_ => s1026_l1 a t k_) a k y 0 0 = if s89 [s96 y.Start, s96 y.End, if y.End < y.Start then 11 else 0, (s1092 y.Size), (s1093 y.Terminal)] = 0 then s1026_l1 a t (k + 1) else some (s89 [s96 y.Start, s96 y.End, if y.End < y.Start then 11 else 0, (s1092 y.Size), (s1093 y.Terminal)]) := by
   unfold s1026_l2 s1026_j1;simp only [s89_cons, s89_nil]
   by_cases c1 : s96 y.Start = 0 <;> by_cases c2 : s96 y.End = 0 <;> by_cases c3 : y.End < y.Start <;> by_cases c4 : s1092 y.Size = 0 <;> by_cases c5 : s1093 y.Terminal = 0 <;> simp [c1, c2, c3, c4, c5]
  rw [show Int.toNat ((k : Nat) : Int) = k by omega, h4, h5, turns_l a t (k + 1) ht];generalize s89 [s96 y.Start, s96 y.End, if y.End < y.Start then 11 else 0, (s1092 y.Size), (s1093 y.Terminal)] = E
  cases hn : s91 y.Name
  ·simp
  ·cases ha : (a.take k).any (fun z => decide (z.Name = y.Name)) <;> simp [ha]
   by_cases hE : E = 0 <;> simp [hE]
theorem turns_eq (a : List S1124) : s1026 a = some (s1025 a) := by
 unfold s1026 s1025 s1094;rw [turns_l a a 0 rfl]
 cases decide (256 < (List.length a : Int)) <;> rfl
theorem movs_l (a : List S1079) : ∀ t k, s1028_l1 t k = s1099_l1 a s1100 t k
 | [], k => rfl
 | y :: t, k => by
  rw [s1028_l1, s1099_l1, ← movs_l a t (k + 1)];unfold s1100 s1028_j2 s1028_j1;rw [s1085_eq, s1086_ite, s1086_ite, name_eq, s1089_eq, s1088_eq, s1088_eq, s1088_eq, s1098_eq];simp only [s89_cons, s89_nil, s1092]
  by_cases c1 : s96 y.Moment = 0 <;> by_cases c2 : y.Kind = ⟨#[65]⟩ <;> by_cases c3 : y.Kind = ⟨#[68]⟩ <;> by_cases c4 : s1093 y.Terminal = 0 <;> by_cases c5 : s90 y.Seats 0 999 = 0 <;> by_cases c6 : s90 y.Size 1 9 = 0 <;> by_cases c7 : s90 y.Noise 0 99 = 0 <;> by_cases c8 : s91 y.Name = true <;> simp [c1, c2, c3, c4, c5, c6, c7, c8]
theorem movs_eq (a : List S1079) : s1028 a = s1027 a := by
 unfold s1028 s1027 s1099;rw [movs_l a a 0]
theorem s89_zero : ∀ (l : List Int), s89 l = 0 ↔ ∀ x ∈ l, x = 0
 | [] => by simp [s89_nil]
 | x :: l => by
  rw [s89_cons]
  by_cases h : x = 0
  ·simp [h, s89_zero l]
  ·simp [h]
theorem s90_zero (a b c : Int) : s90 a b c = 0 ↔ b ≤ a ∧ a ≤ c := by rw [s90_ite]; split <;> simp_all
theorem s96_zero (a : Int) : s96 a = 0 ↔ 0 ≤ a ∧ a ≤ 143999999 := s90_zero _ _ _
theorem s1086_zero (b : Bool) (e : Int) (he : e ≠ 0) : s1086 b e = 0 ↔ b = false := by rw [s1086_ite]; cases b <;> simp [he]
structure TurnOk (t : S1124) : Prop where
 s0 : 0 ≤ t.Start
 se : t.Start ≤ t.End
 e1 : t.End ≤ 143999999
 z0 : 1 ≤ t.Size
 z1 : t.Size ≤ 9
 nm : s91 t.Name = true
theorem turns_all (a : List S1124) : ∀ t k, s1094_l1 a s1095 t k = 0 → ∀ y ∈ t, TurnOk y
 | [], _, _, y, hy => by cases hy
 | z :: t, k, h, y, hy => by
  rw [s1094_l1] at h
  by_cases h0 : s1095 z (List.take (Int.toNat ((k : Nat) : Int)) a) = 0
  ·rw [h0] at h
   rcases List.mem_cons.1 hy with rfl | hy
   ·unfold s1095 at h0;rw [s1085_eq, s89_zero] at h0;simp only [List.mem_cons, List.not_mem_nil, or_false, forall_eq_or_imp, forall_eq] at h0;obtain ⟨g1, _, g3, g4, g5, g6, _⟩ := h0;rw [s1086_zero _ _ (by decide), name_eq] at g1;rw [s1098_eq, s96_zero] at g3 g4;rw [s1086_zero _ _ (by decide)] at g5;rw [s1088_eq, s90_zero] at g6
    simp at g1 g5
    exact ⟨g3.1, g5, g4.2, g6.1, g6.2, g1⟩
   ·exact turns_all a t (k + 1) (by simpa using h) y hy
  ·rw [decide_eq_true h0, cond_true] at h; exact absurd h h0
theorem turns_ok {l : List S1124} (h : s1025 l = 0) : l.length ≤ 256 ∧ ∀ y ∈ l, TurnOk y := by
 unfold s1025 s1094 at h
 cases hc : decide ((256 : Int) < (List.length l : Int))
 ·rw [hc] at h;exact ⟨by have := of_decide_eq_false hc; omega, turns_all l l 0 h⟩
 ·rw [hc] at h; simp at h
structure StandOk (t : S1122) : Prop where
 z0 : 1 ≤ t.Size
 z1 : t.Size ≤ 9
 nm : s91 t.Name = true
structure MovOk (m : S1079) : Prop where
 m0 : 0 ≤ m.Moment
 m1 : m.Moment ≤ 143999999
 s0 : 0 ≤ m.Seats
 s1 : m.Seats ≤ 999
 n0 : 0 ≤ m.Noise
 n1 : m.Noise ≤ 99
 kd : m.Kind = ⟨#[65]⟩ ∨ m.Kind = ⟨#[68]⟩
 nm : s91 m.Name = true
structure SeatOk (x : S1063) : Prop where
 l0 : 1 ≤ x.Length
 l1 : x.Length ≤ 1440
 s0 : 1 ≤ x.Step
 s1 : x.Step ≤ x.Length
 m0 : 0 ≤ x.Most
 m1 : x.Most ≤ 999999999
 kd : x.Kind = ⟨#[65]⟩ ∨ x.Kind = ⟨#[68]⟩ ∨ x.Kind = ⟨#[84]⟩
theorem s1040_eq (l : List Int) : s1040 l = s89 l := id rfl
theorem s1123_eq (n : Int) : s1123 n = s1058 n := by unfold s1123 s1058; rw [s1088_eq]
theorem alike_sym (a b : ByteArray) : s1126 a b = s1127 b a := by
 unfold s1126 s1127
 by_cases h1 : a = b
 ·subst h1; simp
 ·have h2 : ¬ b = a := fun h => h1 h.symm;simp only [h1, h2, decide_false, Bool.false_or];rw [Bool.or_comm]
theorem alike_eq (a b : ByteArray) : s1126 a b = s1127 a b := rfl
theorem suits_eq (t : S1124) (s : S1122) : s1128 t s = s1068 s t := by unfold s1128 s1068; rw [alike_sym]
theorem end_wrap {e b : Int} (h0 : 0 ≤ e) (h1 : e ≤ 143999999) (h2 : 0 ≤ b) (h3 : b ≤ 240) : IntKind.i64.wrap (e + b) = e + b := wrap_i64 (by unfold I64; omega)
theorem overlap_eq {a c : S1124} {b : Int} (ha : TurnOk a) (hc : TurnOk c) (h2 : 0 ≤ b) (h3 : b ≤ 240) : s1130 a c b = s1070 a c b := by
 unfold s1130 s1070 s1131;have := ha.s0; have := ha.se; have := ha.e1; have := hc.s0; have := hc.se; have := hc.e1;rw [end_wrap (by omega) (by omega) h2 h3, end_wrap (by omega) (by omega) h2 h3, end_wrap (by omega) (by omega) h2 h3];rw [Bool.eq_iff_iff]
 simp
 omega
theorem pair_eq (a d : S1079) (l m : Int) : s1064 a d l m = (if s1065 a d l m = 0 then s1066 a d else S1124.mk ByteArray.empty 0 0 0 ByteArray.empty, s1065 a d l m) := by
 unfold s1064 s1064_j1 s1066 s1066_j1 s1065 s1065_j5 s1065_j4 s1065_j3 s1065_j2 s1065_j1;rw [s1085_eq, movs_eq, movs_eq, s1086_ite, s1086_ite, s1086_ite, s1088_eq, s1088_eq, alike_eq];simp only [s89_cons, s89_nil]
 by_cases c1 : s1027 [a] = 0
 ·by_cases c2 : a.Kind = ⟨#[65]⟩
  ·by_cases c3 : s1027 [d] = 0
   ·by_cases c4 : d.Kind = ⟨#[68]⟩
    ·by_cases c5 : s90 l 0 10080 = 0
     ·by_cases c6 : s90 m 0 10080 = 0
      ·by_cases c7 : m < l
       ·simp [c1, c2, c3, c4, c5, c6, c7]
       ·simp only [c1, c2, c3, c4, c5, c6, c7, decide_true, decide_false, Bool.not_true, Bool.and_false, Bool.true_and, cond_false, if_true, if_false, ne_eq, not_true_eq_false, Bool.false_eq_true];generalize hb : ((decide (IntKind.i64.wrap (d.Moment - a.Moment) < l) || decide (m < IntKind.i64.wrap (d.Moment - a.Moment))) || decide (a.Size ≠ d.Size) || !(s1127 a.Terminal d.Terminal)) = B
        cases B
        ·by_cases c8 : a.Terminal = ⟨#[]⟩ <;> simp [c8]
        ·simp
      ·simp [c1, c2, c3, c4, c5, c6]
     ·simp [c1, c2, c3, c4, c5]
    ·simp [c1, c2, c3, c4]
   ·simp [c1, c2, c3]
  ·simp [c1, c2]
 ·simp [c1]
theorem s1012_true (a0 : S1128) (a1 : S1122) (a2 : S1124 × S1124) : s1012 a0 a1 a2 = some true := by
 unfold s1012;rw [s1015_eq];generalize hg : ((((!true) || (!(s1020 [a0.Arrival, a0.Departure] 2))) || (!(s1016 (s1017 [a1]) 1))) || (!(s1018 (s1019 [a2.1, a2.2]) 2))) = G
 cases hG : G
 case true => rfl
 rw [cond_false]
 have hj : ∀ x : S1124, x = (if s1065 a0.Arrival a0.Departure a0.Least a0.Most = 0 then s1066 a0.Arrival a0.Departure else S1124.mk ByteArray.empty 0 0 0 ByteArray.empty) → s1012_j1 a0 a1 a2 x.Name x.Start x.End x.Size x.Terminal = some true := by
  rintro x rfl;unfold s1012_j1;rw [pair_eq]
  have h1 : (s1067 a1 a2.1).2 = s89 [s1023 [a1], s1025 [a2.1]] := by
   unfold s1067; rw [s1085_eq]
   by_cases h : s89 [s1023 [a1], s1025 [a2.1]] = 0 <;> simp [h]
  have h2 : (s1067 a1 a2.1).1 = (decide (s89 [s1023 [a1], s1025 [a2.1]] = 0) && s1068 a1 a2.1) := by
   unfold s1067; rw [s1085_eq, suits_eq]
   by_cases h : s89 [s1023 [a1], s1025 [a2.1]] = 0 <;> simp [h]
  have h3 : (s1069 a2.1 a2.2 a0.Least).2 = s89 [s1025 [a2.1], s1025 [a2.2], s1058 a0.Least] := by
   unfold s1069; rw [s1085_eq, s1123_eq]
   by_cases h : s89 [s1025 [a2.1], s1025 [a2.2], s1058 a0.Least] = 0 <;> simp [h]
  have h4 : (s1069 a2.1 a2.2 a0.Least).1 = (decide (s89 [s1025 [a2.1], s1025 [a2.2], s1058 a0.Least] = 0) && s1070 a2.1 a2.2 a0.Least) := by
   unfold s1069; rw [s1085_eq, s1123_eq]
   by_cases h : s89 [s1025 [a2.1], s1025 [a2.2], s1058 a0.Least] = 0
   ·have h' := h;rw [s89_zero] at h';simp only [List.mem_cons, List.not_mem_nil, or_false, forall_eq_or_imp, forall_eq] at h';obtain ⟨g1, g2, g3⟩ := h';have k1 := (turns_ok g1).2 _ (List.mem_singleton.2 rfl);have k2 := (turns_ok g2).2 _ (List.mem_singleton.2 rfl);unfold s1058 at g3; rw [s90_zero] at g3;simp only [h, ne_eq, not_true_eq_false, decide_false, cond_false, decide_true, Bool.true_and];rw [overlap_eq k1 k2 g3.1 g3.2];generalize he : eqAnd _ = Q
    cases Q
    ·simp
    ·have : a2.1 = a2.2 := by
      revert he
      rcases a2 with ⟨⟨n, s, e, z, t⟩, ⟨n', s', e', z', t'⟩⟩
      simp [eqAnd]
     rw [← this];simp only [Bool.true_and, Bool.not_true, Bool.false_and, Bool.or_false];unfold s1129 s1070 s1131
     simp
   ·simp [h]
  rw [s1017_eq, s1019_eq, s1019_eq, stands_eq, turns_eq, turns_eq];simp only [bindO, s1040_eq, h1, h2, h3, h4, ne_eq, not_true_eq_false, decide_false, beq_self_eq_true, Bool.not_true, Bool.or_false, Bool.or_self, decide_true, Bool.and_self, cond_false]
  simp [eqAnd]
 by_cases h0 : s1065 a0.Arrival a0.Departure a0.Least a0.Most = 0
 ·rw [decide_eq_true h0, cond_true]; exact hj _ (by rw [if_pos h0])
 ·rw [decide_eq_false h0, cond_false]; exact hj (S1124.mk ByteArray.empty 0 0 0 ByteArray.empty) (by rw [if_neg h0])
end Go.Sim
