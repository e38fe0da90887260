/-
  What is proved: lemmas and contracts of functions on the way to the law topChockLots (part 12).
-/
import Derived.Test.YtnknncfgbefpeaaGreatVrB2
import Derived.Test.YtnknncfgbefpeaaGreatVrA9
import Derived.Test.YtnknncfgbefpeaaGreatVrA8
import Derived.Test.YtnknncfgbefpeaaGreatVrA5
import Derived.Test.YtnknncfgbefpeaaGreatVrA7
import Derived.KernelRfl
set_option linter.unusedSectionVars false
set_option linter.unusedSimpArgs false
set_option linter.unusedVariables false
set_option linter.unnecessarySimpa false
set_option linter.deprecated false
set_option maxRecDepth 10000
namespace Go.Sim
open Go.Proofs
def s4068_l1 (a1 : S4026) (a2 : S4026) : List (S4063 × S4076) → ByteArray → Int → Option (Int × ByteArray)
 | [], x3, x4 => some (0, ⟨#[]⟩)
 | y5 :: t6, x3, x4 => bindO (kcO y5.2.of a1) fun r7 => bindO (kcO y5.2.of a2) fun r8 => (bif decide (r7 ≠ r8) then some (IntKind.i64.wrap ((IntKind.i64.wrap (2 * (s4071 (!((decide (r8 < r7)) == y5.1.Down))))) - 1), y5.1.Fact) else s4068_l1 a1 a2 t6 x3 x4)
def s4068 (a0 : S4040) (a1 : S4026) (a2 : S4026) : Option (Int × ByteArray) :=
 bindO (s4050 a0 a1) fun r1 => bindO (s4050 a0 a2) fun r2 => (bif decide (r1 ≠ r2) then some (IntKind.i64.wrap ((IntKind.i64.wrap (2 * (s4071 (decide (r2 < r1))))) - 1), ⟨#[99, 108, 97, 115, 115]⟩) else (bif (eqAnd [decide (a1.Request.Name = a2.Request.Name), decide (a1.Request.Carrier = a2.Request.Carrier), decide (a1.Request.Kind = a2.Request.Kind), decide (a1.Request.Terminal = a2.Request.Terminal), decide (a1.Request.Partner = a2.Request.Partner), decide (a1.Request.Link = a2.Request.Link), decide (a1.Request.Period.fFrom = a2.Request.Period.fFrom), decide (a1.Request.Period.fTo = a2.Request.Period.fTo), decide (a1.Request.Period.Days = a2.Request.Period.Days), decide (a1.Request.Minute = a2.Request.Minute), decide (a1.Request.Seats = a2.Request.Seats), decide (a1.Request.Size = a2.Request.Size), decide (a1.Request.Noise = a2.Request.Noise)]) && (eqAnd [decide (a1.Request.Name = a2.Request.Name), decide (a1.Request.Carrier = a2.Request.Carrier), decide (a1.Request.Kind = a2.Request.Kind), decide (a1.Request.Terminal = a2.Request.Terminal), decide (a1.Request.Partner = a2.Request.Partner), decide (a1.Request.Link = a2.Request.Link), decide (a1.Request.Period.fFrom = a2.Request.Period.fFrom), decide (a1.Request.Period.fTo = a2.Request.Period.fTo), decide (a1.Request.Period.Days = a2.Request.Period.Days), decide (a1.Request.Minute = a2.Request.Minute), decide (a1.Request.Seats = a2.Request.Seats), decide (a1.Request.Size = a2.Request.Size), decide (a1.Request.Noise = a2.Request.Noise), decide (a1.Historic = a2.Historic), decide (a1.Retimed = a2.Retimed), decide (a1.Newcomer = a2.Newcomer), decide (a1.Yearround = a2.Yearround), decide (a1.Distance = a2.Distance)]) then some (0, ⟨#[]⟩) else s4068_l1 a1 a2 (keysL a0 r1) ByteArray.empty 0))
theorem qyq {g : List (Nat × List Value)} (a0 : S4040) (a1 : S4026) (a2 : S4026) {R : Int × ByteArray}   (hR : s4068 a0 a1 a2 = some R) : Con (EG g) 68 [G.agg [G.sl 3 (List.map S4069.c a0.Classes), G.int a0.Pool, G.int a0.Of, G.int a0.For], G.agg [G.str a1.Request.Name, G.str a1.Request.Carrier, G.str a1.Request.Kind, G.str a1.Request.Terminal, G.str a1.Request.Partner, G.str a1.Request.Link, G.int a1.Request.Period.fFrom, G.int a1.Request.Period.fTo, G.int a1.Request.Period.Days, G.int a1.Request.Minute, G.int a1.Request.Seats, G.int a1.Request.Size, G.int a1.Request.Noise, G.bool a1.Historic, G.bool a1.Retimed, G.bool a1.Newcomer, G.bool a1.Yearround, G.int a1.Distance], G.agg [G.str a2.Request.Name, G.str a2.Request.Carrier, G.str a2.Request.Kind, G.str a2.Request.Terminal, G.str a2.Request.Partner, G.str a2.Request.Link, G.int a2.Request.Period.fFrom, G.int a2.Request.Period.fTo, G.int a2.Request.Period.Days, G.int a2.Request.Minute, G.int a2.Request.Seats, G.int a2.Request.Size, G.int a2.Request.Noise, G.bool a2.Historic, G.bool a2.Retimed, G.bool a2.Newcomer, G.bool a2.Yearround, G.int a2.Distance]] (G.tup [G.int R.1, G.str R.2]) := by
 unfold s4068 at hR;refine qlr Tryz.func68 rfl rfl (qnd (qfd (qhd _) (qfd (qhd _) qne))) fun w0 M0 => ?_;refine qd ?_;refine qb [.p, .p, .p, .w, .w] ?_;refine st rfl rfl (zj rfl rfl) rfl ?_;refine st rfl rfl (zj rfl rfl) rfl ?_;refine st rfl rfl (zj rfl rfl) rfl ?_;refine st_w rfl rfl (zw 6 rfl z3 rfl rfl) rfl ?_;refine st_w rfl rfl (zw 7 rfl z9 rfl rfl) rfl ?_;refine qe ?_;refine qd ?_;obtain ⟨r1, br1, hR⟩ := qm hR;obtain ⟨r2, br2, hR⟩ := qm hR;refine zz [.p, .p, .p, .p, .p, .p, .p, .p] (by kernel_rfl) ?_;refine st rfl rfl (qw rfl wz rfl rfl rfl) rfl ?_;refine st rfl rfl (qw rfl jf rfl rfl rfl) rfl ?_;refine st rfl rfl (qh rfl qsa rfl (qsi a0 a1 br1) (qg rfl (qg rfl ql))) rfl ?_;refine st rfl rfl (qw rfl wz rfl rfl rfl) rfl ?_;refine st rfl rfl (qw rfl jf rfl rfl rfl) rfl ?_;refine st rfl rfl (qh rfl qsa rfl (qsi a0 a2 br2) (qg rfl (qg rfl ql))) rfl ?_;refine st rfl rfl (qc rfl rfl) rfl ?_;refine st rfl rfl (qc rfl rfl) rfl ?_;refine qe ?_;refine qd ?_;refine qd ?_;refine qb [.p, .p, .p] ?_;refine st rfl rfl (qa rfl rfl) rfl ?_;refine st rfl rfl (qa rfl rfl) rfl ?_;refine st rfl rfl (zo rfl rfl rfl) rfl ?_;refine qe ?_;refine qp _ rfl (fun h1 => ?_) (fun h1 => ?_)
 ·replace h1 : (decide (r1 ≠ r2)) = true := h1;replace hR := jc hR h1;(try simp only [Bool.or_eq_true, Bool.and_eq_true, Bool.or_eq_false_iff, Bool.and_eq_false_iff, Bool.not_eq_true', Bool.not_eq_false', decide_eq_true_eq, decide_eq_false_iff_not] at h1);refine qd ?_;refine qb [.p, .p, .p, .p, .p, .p, .wq 6, .wq 7] ?_;refine st rfl rfl (qa rfl rfl) rfl ?_;refine st rfl rfl (qa rfl rfl) rfl ?_;refine st rfl rfl (j9 rfl rfl rfl) rfl ?_;refine st rfl rfl (qh rfl qe0 rfl (qge (decide (r2 < r1))) (qg rfl ql)) rfl ?_;refine st rfl rfl (qj5 rfl rfl rfl) rfl ?_;refine st rfl rfl (qdp rfl rfl rfl) rfl ?_;refine qcw (i := 6) rfl rfl (fun m_ hm_ => q8 (tv := .g (G.int (IntKind.i64.wrap ((IntKind.i64.wrap (2 * (s4071 (decide (r2 < r1))))) - 1)))) rfl ty3 rfl rfl (hm_.trans rfl) rfl rfl) ?_;refine qcw (i := 7) rfl rfl (fun m_ hm_ => q8 (tv := .g (G.str (⟨#[99, 108, 97, 115, 115]⟩))) rfl ty9 rfl rfl (hm_.trans rfl) rfl rfl) ?_;refine qe ?_;refine qn ?_;obtain rfl := Option.some.inj hR;exact resN rfl ⟨xw rfl rfl ty3 rfl, xw rfl rfl ty9 rfl, trivial⟩ (by simp)
 ·replace h1 : (decide (r1 ≠ r2)) = false := h1;replace hR := jd hR h1;(try simp only [Bool.or_eq_true, Bool.and_eq_true, Bool.or_eq_false_iff, Bool.and_eq_false_iff, Bool.not_eq_true', Bool.not_eq_false', decide_eq_true_eq, decide_eq_false_iff_not] at h1);refine qq ?_;refine qd ?_;refine qd ?_;refine qb [.p, .p, .p, .p, .p, .p, .p, .p, .p, .p] ?_;refine st rfl rfl (qf rfl js rfl) rfl ?_;refine st rfl rfl (qw rfl qm2 rfl rfl rfl) rfl ?_;refine st rfl rfl (qf rfl js rfl) rfl ?_;refine st rfl rfl (qw rfl qm2 rfl rfl rfl) rfl ?_;refine st rfl rfl (qj6 [.string a1.Request.Name, .string a1.Request.Carrier, .string a1.Request.Kind, .string a1.Request.Terminal, .string a1.Request.Partner, .string a1.Request.Link, .int .i64 a1.Request.Period.fFrom, .int .i64 a1.Request.Period.fTo, .int .i64 a1.Request.Period.Days, .int .i64 a1.Request.Minute, .int .i64 a1.Request.Seats, .int .i64 a1.Request.Size, .int .i64 a1.Request.Noise] [.string a2.Request.Name, .string a2.Request.Carrier, .string a2.Request.Kind, .string a2.Request.Terminal, .string a2.Request.Partner, .string a2.Request.Link, .int .i64 a2.Request.Period.fFrom, .int .i64 a2.Request.Period.fTo, .int .i64 a2.Request.Period.Days, .int .i64 a2.Request.Minute, .int .i64 a2.Request.Seats, .int .i64 a2.Request.Size, .int .i64 a2.Request.Noise] rfl qsc rfl rfl rfl rfl rfl) rfl ?_;refine st rfl rfl (qa rfl rfl) rfl ?_;refine st_g rfl rfl rfl (qi _ _) (fun h => qw rfl jf rfl rfl rfl) rfl ?_;refine st_g rfl rfl rfl (qi _ _) (fun h => qw rfl jf rfl rfl rfl) rfl ?_;refine st_g rfl rfl rfl (qi _ _) (fun h => qj6 [.string a1.Request.Name, .string a1.Request.Carrier, .string a1.Request.Kind, .string a1.Request.Terminal, .string a1.Request.Partner, .string a1.Request.Link, .int .i64 a1.Request.Period.fFrom, .int .i64 a1.Request.Period.fTo, .int .i64 a1.Request.Period.Days, .int .i64 a1.Request.Minute, .int .i64 a1.Request.Seats, .int .i64 a1.Request.Size, .int .i64 a1.Request.Noise, .bool a1.Historic, .bool a1.Retimed, .bool a1.Newcomer, .bool a1.Yearround, .int .i64 a1.Distance] [.string a2.Request.Name, .string a2.Request.Carrier, .string a2.Request.Kind, .string a2.Request.Terminal, .string a2.Request.Partner, .string a2.Request.Link, .int .i64 a2.Request.Period.fFrom, .int .i64 a2.Request.Period.fTo, .int .i64 a2.Request.Period.Days, .int .i64 a2.Request.Minute, .int .i64 a2.Request.Seats, .int .i64 a2.Request.Size, .int .i64 a2.Request.Noise, .bool a2.Historic, .bool a2.Retimed, .bool a2.Newcomer, .bool a2.Yearround, .int .i64 a2.Distance] rfl qpw (gd h rfl) (gd h rfl) rfl rfl rfl) rfl ?_;refine st rfl rfl (jp rfl rfl rfl rfl) rfl ?_;refine qe ?_;refine qp _ rfl (fun h2 => ?_) (fun h2 => ?_)
  ·replace h2 : ((eqAnd [decide (a1.Request.Name = a2.Request.Name), decide (a1.Request.Carrier = a2.Request.Carrier), decide (a1.Request.Kind = a2.Request.Kind), decide (a1.Request.Terminal = a2.Request.Terminal), decide (a1.Request.Partner = a2.Request.Partner), decide (a1.Request.Link = a2.Request.Link), decide (a1.Request.Period.fFrom = a2.Request.Period.fFrom), decide (a1.Request.Period.fTo = a2.Request.Period.fTo), decide (a1.Request.Period.Days = a2.Request.Period.Days), decide (a1.Request.Minute = a2.Request.Minute), decide (a1.Request.Seats = a2.Request.Seats), decide (a1.Request.Size = a2.Request.Size), decide (a1.Request.Noise = a2.Request.Noise)]) && (eqAnd [decide (a1.Request.Name = a2.Request.Name), decide (a1.Request.Carrier = a2.Request.Carrier), decide (a1.Request.Kind = a2.Request.Kind), decide (a1.Request.Terminal = a2.Request.Terminal), decide (a1.Request.Partner = a2.Request.Partner), decide (a1.Request.Link = a2.Request.Link), decide (a1.Request.Period.fFrom = a2.Request.Period.fFrom), decide (a1.Request.Period.fTo = a2.Request.Period.fTo), decide (a1.Request.Period.Days = a2.Request.Period.Days), decide (a1.Request.Minute = a2.Request.Minute), decide (a1.Request.Seats = a2.Request.Seats), decide (a1.Request.Size = a2.Request.Size), decide (a1.Request.Noise = a2.Request.Noise), decide (a1.Historic = a2.Historic), decide (a1.Retimed = a2.Retimed), decide (a1.Newcomer = a2.Newcomer), decide (a1.Yearround = a2.Yearround), decide (a1.Distance = a2.Distance)])) = true := h2;replace hR := jc hR h2;(try simp only [Bool.or_eq_true, Bool.and_eq_true, Bool.or_eq_false_iff, Bool.and_eq_false_iff, Bool.not_eq_true', Bool.not_eq_false', decide_eq_true_eq, decide_eq_false_iff_not] at h2);refine qd ?_;refine qb [.wq 6, .wq 7] ?_;refine qcw (i := 6) rfl rfl (fun m_ hm_ => q8 (tv := .g (G.int 0)) rfl ty3 rfl rfl (hm_.trans rfl) rfl rfl) ?_;refine qcw (i := 7) rfl rfl (fun m_ hm_ => q8 (tv := .g (G.str (⟨#[]⟩))) rfl ty9 rfl rfl (hm_.trans rfl) rfl rfl) ?_;refine qe ?_;refine qn ?_;obtain rfl := Option.some.inj hR;exact resN rfl ⟨xw rfl rfl ty3 rfl, xw rfl rfl ty9 rfl, trivial⟩ (by simp)
  ·replace h2 : ((eqAnd [decide (a1.Request.Name = a2.Request.Name), decide (a1.Request.Carrier = a2.Request.Carrier), decide (a1.Request.Kind = a2.Request.Kind), decide (a1.Request.Terminal = a2.Request.Terminal), decide (a1.Request.Partner = a2.Request.Partner), decide (a1.Request.Link = a2.Request.Link), decide (a1.Request.Period.fFrom = a2.Request.Period.fFrom), decide (a1.Request.Period.fTo = a2.Request.Period.fTo), decide (a1.Request.Period.Days = a2.Request.Period.Days), decide (a1.Request.Minute = a2.Request.Minute), decide (a1.Request.Seats = a2.Request.Seats), decide (a1.Request.Size = a2.Request.Size), decide (a1.Request.Noise = a2.Request.Noise)]) && (eqAnd [decide (a1.Request.Name = a2.Request.Name), decide (a1.Request.Carrier = a2.Request.Carrier), decide (a1.Request.Kind = a2.Request.Kind), decide (a1.Request.Terminal = a2.Request.Terminal), decide (a1.Request.Partner = a2.Request.Partner), decide (a1.Request.Link = a2.Request.Link), decide (a1.Request.Period.fFrom = a2.Request.Period.fFrom), decide (a1.Request.Period.fTo = a2.Request.Period.fTo), decide (a1.Request.Period.Days = a2.Request.Period.Days), decide (a1.Request.Minute = a2.Request.Minute), decide (a1.Request.Seats = a2.Request.Seats), decide (a1.Request.Size = a2.Request.Size), decide (a1.Request.Noise = a2.Request.Noise), decide (a1.Historic = a2.Historic), decide (a1.Retimed = a2.Retimed), decide (a1.Newcomer = a2.Newcomer), decide (a1.Yearround = a2.Yearround), decide (a1.Distance = a2.Distance)])) = false := h2;replace hR := jd hR h2;(try simp only [Bool.or_eq_true, Bool.and_eq_true, Bool.or_eq_false_iff, Bool.and_eq_false_iff, Bool.not_eq_true', Bool.not_eq_false', decide_eq_true_eq, decide_eq_false_iff_not] at h2);refine qq ?_;refine qd ?_;refine qd ?_;refine qb [.p, .p, .p] ?_;refine st rfl rfl (qw rfl wz rfl rfl rfl) rfl ?_;refine st rfl rfl (qa rfl rfl) rfl ?_;refine st rfl rfl (qh rfl qyb rfl (qyr a0 r1) (qg rfl (qg rfl ql))) rfl ?_;refine qe ?_;refine qt ?_;refine Pr.aw_rangeCN (α := S4063 × S4076) (γ := ByteArray × Int) (enc := encK) (l := [(4, .g (G.ref [G.str a1.Request.Name, G.str a1.Request.Carrier, G.str a1.Request.Kind, G.str a1.Request.Terminal, G.str a1.Request.Partner, G.str a1.Request.Link, G.int a1.Request.Period.fFrom, G.int a1.Request.Period.fTo, G.int a1.Request.Period.Days, G.int a1.Request.Minute, G.int a1.Request.Seats, G.int a1.Request.Size, G.int a1.Request.Noise, G.bool a1.Historic, G.bool a1.Retimed, G.bool a1.Newcomer, G.bool a1.Yearround, G.int a1.Distance])), (5, .g (G.ref [G.str a2.Request.Name, G.str a2.Request.Carrier, G.str a2.Request.Kind, G.str a2.Request.Terminal, G.str a2.Request.Partner, G.str a2.Request.Link, G.int a2.Request.Period.fFrom, G.int a2.Request.Period.fTo, G.int a2.Request.Period.Days, G.int a2.Request.Minute, G.int a2.Request.Seats, G.int a2.Request.Size, G.int a2.Request.Noise, G.bool a2.Historic, G.bool a2.Retimed, G.bool a2.Newcomer, G.bool a2.Yearround, G.int a2.Distance])), (6, .ptr 6 0), (7, .ptr 7 0), (41, .g (G.fn (.func 123) [] [G.ref [G.int r1], G.ref [G.sl 3 (List.map S4069.c a0.Classes), G.int a0.Pool, G.int a0.Of, G.int a0.For]]))]) (keysL a0 r1) (fun g => [(6, .box [.g (G.int g.2)]), (7, .box [.g (G.str g.1)])]) (fun tl_ g => s4068_l1 a1 a2 tl_ g.1 g.2 = some R) (ByteArray.empty, 0) (fun g y5 => (upd 11 (.ptr 11 0) (upd 10 (.ptr 10 0) (upd 43 (.g (factG y5)) (upd 42 (.g (keyG y5)) (lookT [(4, .g (G.ref [G.str a1.Request.Name, G.str a1.Request.Carrier, G.str a1.Request.Kind, G.str a1.Request.Terminal, G.str a1.Request.Partner, G.str a1.Request.Link, G.int a1.Request.Period.fFrom, G.int a1.Request.Period.fTo, G.int a1.Request.Period.Days, G.int a1.Request.Minute, G.int a1.Request.Seats, G.int a1.Request.Size, G.int a1.Request.Noise, G.bool a1.Historic, G.bool a1.Retimed, G.bool a1.Newcomer, G.bool a1.Yearround, G.int a1.Distance])), (5, .g (G.ref [G.str a2.Request.Name, G.str a2.Request.Carrier, G.str a2.Request.Kind, G.str a2.Request.Terminal, G.str a2.Request.Partner, G.str a2.Request.Link, G.int a2.Request.Period.fFrom, G.int a2.Request.Period.fTo, G.int a2.Request.Period.Days, G.int a2.Request.Minute, G.int a2.Request.Seats, G.int a2.Request.Size, G.int a2.Request.Noise, G.bool a2.Historic, G.bool a2.Retimed, G.bool a2.Newcomer, G.bool a2.Yearround, G.int a2.Distance])), (6, .ptr 6 0), (7, .ptr 7 0), (41, .g (G.fn (.func 123) [] [G.ref [G.int r1], G.ref [G.sl 3 (List.map S4069.c a0.Classes), G.int a0.Pool, G.int a0.Of, G.int a0.For]]))])))), (11, .box [.g (G.str y5.2.name), .g (kfG y5.2.of)]) :: (11, .box [.g (G.str ByteArray.empty), .g (kfG 0)]) :: (10, .box [.g (G.str y5.1.Fact), .g (G.bool y5.1.Down)]) :: (10, .box [.g (G.str ByteArray.empty), .g (G.bool false)]) :: [(6, .box [.g (G.int g.2)]), (7, .box [.g (G.str g.1)])])) rfl ⟨rfl, rfl, rfl, rfl, rfl, trivial⟩ ⟨rfl, rfl, trivial⟩ rfl rfl qyk (qp3 a0 r1 (qp4 br1)) keyG factG qu4 qsj (by exact hR) rfl rfl (fun _ => rfl) (fun _ => rfl) ?_ (fun _ _ => rfl) ?_ ?_
   ·rintro y5 ⟨x3, x4⟩ lp_ w1_ M1_ x1_;refine qd ?_;refine qb [.w, .w] ?_;refine st_w rfl rfl (zw 10 rfl qcg rfl rfl) rfl ?_;refine kc rfl rfl (q8 (tv := .g (G.agg [G.str y5.1.Fact, G.bool y5.1.Down])) rfl j6 rfl rfl rfl rfl rfl) ?_;refine qe ?_;refine qb [.w, .w] ?_;refine st_w rfl rfl (zw 11 rfl qa8 rfl rfl) rfl ?_;refine kc rfl rfl (q8 (tv := .g (G.agg [G.str y5.2.name, kfG y5.2.of])) rfl qa4 rfl rfl rfl rfl rfl) ?_;refine qe ?_;exact ⟨rfl, rfl⟩
   ·rintro y5 t6 ⟨x3, x4⟩ hx1 hR lp_ w1_ M1_ x1_;replace hR : s4068_l1 a1 a2 (y5 :: t6) x3 x4 = some R := hR;rw [s4068_l1] at hR;(try dsimp only at hR);refine qt ?_;refine qd ?_;obtain ⟨r7, br7, hR⟩ := qm hR;obtain ⟨r8, br8, hR⟩ := qm hR;refine zz [.p, .r, .p, .p, .p, .r, .p, .p, .p, .p] (by kernel_rfl) ?_;refine st rfl rfl (zf rfl qdn rfl) rfl ?_;refine st_r rfl rfl (jy rfl qm7 rfl rfl rfl) rfl ?_;refine st rfl rfl (qw rfl jf rfl rfl rfl) rfl ?_;refine st rfl rfl (qbt (fun h_ => h_) (fun h_ => h_) rfl br7 rfl (qg rfl ql)) rfl ?_;refine st rfl rfl (zf rfl qdn rfl) rfl ?_;refine st_r rfl rfl (jy rfl qm7 rfl rfl rfl) rfl ?_;refine st rfl rfl (qw rfl jf rfl rfl rfl) rfl ?_;refine st rfl rfl (qbt (fun h_ => h_) (fun h_ => h_) rfl br8 rfl (qg rfl ql)) rfl ?_;refine st rfl rfl (qc rfl rfl) rfl ?_;refine st rfl rfl (qc rfl rfl) rfl ?_;refine qe ?_;refine qd ?_;refine qb [.p, .p, .p] ?_;refine st rfl rfl (qa rfl rfl) rfl ?_;refine st rfl rfl (qa rfl rfl) rfl ?_;refine st rfl rfl (zo rfl rfl rfl) rfl ?_;refine qe ?_;refine qp _ rfl (fun h3 => ?_) (fun h3 => ?_)
    ·replace h3 : (decide (r7 ≠ r8)) = true := h3;replace hR := jc hR h3;(try simp only [Bool.or_eq_true, Bool.and_eq_true, Bool.or_eq_false_iff, Bool.and_eq_false_iff, Bool.not_eq_true', Bool.not_eq_false', decide_eq_true_eq, decide_eq_false_iff_not] at h3);refine qd ?_;refine zz [.p, .p, .p, .p, .rq 10, .p, .p, .p, .p, .p, .rq 10, .wq 6, .wq 7] (by kernel_rfl) ?_;refine st rfl rfl (qa rfl rfl) rfl ?_;refine st rfl rfl (qa rfl rfl) rfl ?_;refine st rfl rfl (j9 rfl rfl rfl) rfl ?_;refine st rfl rfl (zf rfl qpv rfl) rfl ?_;refine qu5 (i := 10) rfl rfl rfl (fun m_ hm_ => jy rfl ty4 rfl hm_ rfl) rfl ?_;refine st rfl rfl (qp5 rfl Tryz.underlying4 rfl rfl) rfl ?_;refine st rfl rfl (qh rfl qe0 rfl (qge (!((decide (r8 < r7)) == y5.1.Down))) (qg rfl ql)) rfl ?_;refine st rfl rfl (qj5 rfl rfl rfl) rfl ?_;refine st rfl rfl (qdp rfl rfl rfl) rfl ?_;refine st rfl rfl (zf rfl qbn rfl) rfl ?_;refine qu5 (i := 10) rfl rfl rfl (fun m_ hm_ => jy rfl ty9 rfl hm_ rfl) rfl ?_;refine qcw (i := 6) rfl rfl (fun m_ hm_ => q8 (tv := .g (G.int (IntKind.i64.wrap ((IntKind.i64.wrap (2 * (s4071 (!((decide (r8 < r7)) == y5.1.Down))))) - 1)))) rfl ty3 rfl rfl (hm_.trans rfl) rfl rfl) ?_;refine qcw (i := 7) rfl rfl (fun m_ hm_ => q8 (tv := .g (G.str y5.1.Fact)) rfl ty9 rfl rfl (hm_.trans rfl) rfl rfl) ?_;refine qe ?_;refine qn ?_;refine ⟨[(6, .box [.g (G.int (IntKind.i64.wrap ((IntKind.i64.wrap (2 * (s4071 (!((decide (r8 < r7)) == y5.1.Down))))) - 1)))]), (7, .box [.g (G.str y5.1.Fact)])], ?_, rfl, rfl, ⟨rfl, rfl, trivial⟩⟩;refine qn ?_;obtain rfl := Option.some.inj hR;exact resN rfl ⟨xw rfl rfl ty3 rfl, xw rfl rfl ty9 rfl, trivial⟩ (by simp)
    ·replace h3 : (decide (r7 ≠ r8)) = false := h3;replace hR := jd hR h3;(try simp only [Bool.or_eq_true, Bool.and_eq_true, Bool.or_eq_false_iff, Bool.and_eq_false_iff, Bool.not_eq_true', Bool.not_eq_false', decide_eq_true_eq, decide_eq_false_iff_not] at h3);refine qq ?_;exact ⟨(x3, x4), hR, ⟨rfl, rfl, trivial⟩⟩
   ·rintro ⟨x3, x4⟩ hR;replace hR : s4068_l1 a1 a2 [] x3 x4 = some R := hR;rw [s4068_l1] at hR;(try dsimp only at hR);refine qd ?_;refine qb [.wq 6, .wq 7] ?_;refine qcw (i := 6) rfl rfl (fun m_ hm_ => q8 (tv := .g (G.int 0)) rfl ty3 rfl rfl (hm_.trans rfl) rfl rfl) ?_;refine qcw (i := 7) rfl rfl (fun m_ hm_ => q8 (tv := .g (G.str (⟨#[]⟩))) rfl ty9 rfl rfl (hm_.trans rfl) rfl rfl) ?_;refine qe ?_;refine qn ?_;obtain rfl := Option.some.inj hR;exact resN rfl ⟨xw rfl rfl ty3 rfl, xw rfl rfl ty9 rfl, trivial⟩ (by simp)
def s4047 (a0 : S4059) (a1 : Int) (a2 : Int) : Option (Int × ByteArray) :=
 bindO (ixO a0.claims a1) fun y1 => bindO (ixO a0.claims a2) fun y2 => bindO (s4068 a0.program y1 y2) fun r3 => (bif decide (r3.1 = 0) then bindO (ixO a0.lots a1) fun y4 => bindO (ixO a0.lots a2) fun y5 => some ((s167 y4 y5), ⟨#[108, 111, 116]⟩) else some (r3.1, r3.2))
theorem qys {g : List (Nat × List Value)} (a0 : S4059) (a1 : Int) (a2 : Int) {R : Int × ByteArray}   (hR : s4047 a0 a1 a2 = some R) : Con (EG g) 47 [G.agg [G.sl 3 (List.map S4069.c a0.program.Classes), G.int a0.program.Pool, G.int a0.program.Of, G.int a0.program.For, G.sl 18 (List.map S4026.c a0.claims), G.sl 1 (List.map cInt a0.lots)], G.int a1, G.int a2] (G.tup [G.int R.1, G.str R.2]) := by
 unfold s4047 at hR;refine qk Tryz.func47 rfl rfl fun w0 M0 => ?_;refine qd ?_;refine qb [.p, .p, .p] ?_;refine st rfl rfl (zj rfl rfl) rfl ?_;refine st rfl rfl (qc rfl rfl) rfl ?_;refine st rfl rfl (qc rfl rfl) rfl ?_;refine qe ?_;refine qd ?_;obtain ⟨y1, by1, hR⟩ := qm hR;obtain ⟨y2, by2, hR⟩ := qm hR;obtain ⟨r3, br3, hR⟩ := qm hR;refine zz [.p, .p, .p, .p, .p, .p, .p, .p, .p, .p, .p, .p, .p, .p, .p, .p, .p, .p] (by kernel_rfl) ?_;refine st rfl rfl (qf rfl qbm rfl) rfl ?_;refine st rfl rfl (qw rfl wz rfl rfl rfl) rfl ?_;refine st rfl rfl (qf rfl qar rfl) rfl ?_;refine st rfl rfl (qj rfl w6 rfl) rfl ?_;refine st rfl rfl (qa rfl rfl) rfl ?_;refine st rfl rfl (zt (f := S4026.c) (l := a0.claims) (a := y1) rfl Tryz.underlying31 jf rfl rfl (jn by1) (zd by1)) rfl ?_;refine st rfl rfl (qw rfl jf rfl rfl rfl) rfl ?_;refine st rfl rfl (qf rfl qar rfl) rfl ?_;refine st rfl rfl (qj rfl w6 rfl) rfl ?_;refine st rfl rfl (qa rfl rfl) rfl ?_;refine st rfl rfl (zt (f := S4026.c) (l := a0.claims) (a := y2) rfl Tryz.underlying31 jf rfl rfl (jn by2) (zd by2)) rfl ?_;refine st rfl rfl (qw rfl jf rfl rfl rfl) rfl ?_;refine st rfl rfl (qh rfl qxu rfl (qyq a0.program y1 y2 br3) (qg rfl (qg rfl (qg rfl ql)))) rfl ?_;refine st rfl rfl (qa rfl rfl) rfl ?_;refine st rfl rfl (za rfl rfl rfl) rfl ?_;refine st rfl rfl (za rfl rfl rfl) rfl ?_;refine st rfl rfl (qc rfl rfl) rfl ?_;refine st rfl rfl (qc rfl rfl) rfl ?_;refine qe ?_;refine qd ?_;refine qd ?_;refine qb [.p, .p] ?_;refine st rfl rfl (qa rfl rfl) rfl ?_;refine st rfl rfl (vg rfl rfl rfl) rfl ?_;refine qe ?_;refine qp _ rfl (fun h1 => ?_) (fun h1 => ?_)
 ·replace h1 : (decide (r3.1 = 0)) = true := h1;replace hR := jc hR h1;(try simp only [Bool.or_eq_true, Bool.and_eq_true, Bool.or_eq_false_iff, Bool.and_eq_false_iff, Bool.not_eq_true', Bool.not_eq_false', decide_eq_true_eq, decide_eq_false_iff_not] at h1);refine qd ?_;obtain ⟨y4, by4, hR⟩ := qm hR;obtain ⟨y5, by5, hR⟩ := qm hR;refine zz [.p, .p, .p, .p, .p, .p, .p, .p, .p, .p, .p, .p, .p] (by kernel_rfl) ?_;refine st rfl rfl (qf rfl qjw rfl) rfl ?_;refine st rfl rfl (qj rfl ty82 rfl) rfl ?_;refine st rfl rfl (qa rfl rfl) rfl ?_;refine st rfl rfl (zt (f := cInt) (l := a0.lots) (a := y4) rfl Tryz.underlying34 ty3 rfl rfl (jn by4) (zd by4)) rfl ?_;refine st rfl rfl (qj rfl ty3 rfl) rfl ?_;refine st rfl rfl (qf rfl qjw rfl) rfl ?_;refine st rfl rfl (qj rfl ty82 rfl) rfl ?_;refine st rfl rfl (qa rfl rfl) rfl ?_;refine st rfl rfl (zt (f := cInt) (l := a0.lots) (a := y5) rfl Tryz.underlying34 ty3 rfl rfl (jn by5) (zd by5)) rfl ?_;refine st rfl rfl (qj rfl ty3 rfl) rfl ?_;refine st rfl rfl (qh rfl K167 rfl (c167 y4 y5) (qg rfl (qg rfl ql))) rfl ?_;refine st rfl rfl (qc rfl rfl) rfl ?_;refine st rfl rfl (qc rfl rfl) rfl ?_;refine qe ?_;refine qn ?_;obtain rfl := Option.some.inj hR;exact resN rfl ⟨rv_g rfl, rv_g rfl, trivial⟩ (by simp)
 ·replace h1 : (decide (r3.1 = 0)) = false := h1;replace hR := jd hR h1;(try simp only [Bool.or_eq_true, Bool.and_eq_true, Bool.or_eq_false_iff, Bool.and_eq_false_iff, Bool.not_eq_true', Bool.not_eq_false', decide_eq_true_eq, decide_eq_false_iff_not] at h1);refine qq ?_;refine qd ?_;refine qb [.p, .p, .p, .p] ?_;refine st rfl rfl (qa rfl rfl) rfl ?_;refine st rfl rfl (qa rfl rfl) rfl ?_;refine st rfl rfl (qc rfl rfl) rfl ?_;refine st rfl rfl (qc rfl rfl) rfl ?_;refine qe ?_;refine qn ?_;obtain rfl := Option.some.inj hR;exact resN rfl ⟨rv_g rfl, rv_g rfl, trivial⟩ (by simp)
def s4046 (a0 : Int) (a1 : Int) (a2 : S4059) : Option Int :=
 bindO (s4047 a2 a0 a1) fun r1 => some r1.1
theorem qyt {g : List (Nat × List Value)} (a0 : Int) (a1 : Int) (a2 : S4059) {R : Int}   (hR : s4046 a0 a1 a2 = some R) : Con (EG g) 46 [G.int a0, G.int a1, G.ref [G.sl 3 (List.map S4069.c a2.program.Classes), G.int a2.program.Pool, G.int a2.program.Of, G.int a2.program.For, G.sl 18 (List.map S4026.c a2.claims), G.sl 1 (List.map cInt a2.lots)]] (G.int R) := by
 unfold s4046 at hR;refine qk Tryz.func46 rfl rfl fun w0 M0 => ?_;refine qd ?_;refine qb [.p] ?_;refine st rfl rfl (qc rfl rfl) rfl ?_;refine qe ?_;refine qd ?_;obtain ⟨r1, br1, hR⟩ := qm hR;refine qb [.p, .p, .p, .p, .p, .p, .p, .p, .p] ?_;refine st rfl rfl (qw rfl qm4 rfl rfl rfl) rfl ?_;refine st rfl rfl (qa rfl rfl) rfl ?_;refine st rfl rfl (qa rfl rfl) rfl ?_;refine st rfl rfl (qh rfl qxl rfl (qys a2 a0 a1 br1) (qg rfl (qg rfl (qg rfl ql)))) rfl ?_;refine st rfl rfl (qa rfl rfl) rfl ?_;refine st rfl rfl (za rfl rfl rfl) rfl ?_;refine st rfl rfl (za rfl rfl rfl) rfl ?_;refine st rfl rfl (qc rfl rfl) rfl ?_;refine st rfl rfl (qc rfl rfl) rfl ?_;refine qe ?_;refine qd ?_;refine qb [.p, .p] ?_;refine st rfl rfl (qa rfl rfl) rfl ?_;refine st rfl rfl (qc rfl rfl) rfl ?_;refine qe ?_;refine qn ?_;obtain rfl := Option.some.inj hR;exact qy rfl (rv_g rfl)
def s4049 (a0 : Int) (a1 : S4059) : Option Bool :=
 bindO (ixO a1.claims a0) fun y1 => bindO (s4050 a1.program y1) fun r2 => some (decide (a1.program.Pool ≤ r2))
theorem qyu {g : List (Nat × List Value)} (a0 : Int) (a1 : S4059) {R : Bool}   (hR : s4049 a0 a1 = some R) : Con (EG g) 49 [G.int a0, G.ref [G.sl 3 (List.map S4069.c a1.program.Classes), G.int a1.program.Pool, G.int a1.program.Of, G.int a1.program.For, G.sl 18 (List.map S4026.c a1.claims), G.sl 1 (List.map cInt a1.lots)]] (G.bool R) := by
 unfold s4049 at hR;refine qk Tryz.func49 rfl rfl fun w0 M0 => ?_;refine qd ?_;refine qb [.p] ?_;refine st rfl rfl (qc rfl rfl) rfl ?_;refine qe ?_;refine qd ?_;obtain ⟨y1, by1, hR⟩ := qm hR;obtain ⟨r2, br2, hR⟩ := qm hR;refine zz [.p, .p, .p, .p, .p, .p, .p, .p, .p, .p, .p, .p, .p] (by kernel_rfl) ?_;refine st rfl rfl (qf rfl qbm rfl) rfl ?_;refine st rfl rfl (qw rfl wz rfl rfl rfl) rfl ?_;refine st rfl rfl (qf rfl qar rfl) rfl ?_;refine st rfl rfl (qj rfl w6 rfl) rfl ?_;refine st rfl rfl (qa rfl rfl) rfl ?_;refine st rfl rfl (zt (f := S4026.c) (l := a1.claims) (a := y1) rfl Tryz.underlying31 jf rfl rfl (jn by1) (zd by1)) rfl ?_;refine st rfl rfl (qw rfl jf rfl rfl rfl) rfl ?_;refine st rfl rfl (qh rfl qsa rfl (qsi a1.program y1 br2) (qg rfl (qg rfl ql))) rfl ?_;refine st rfl rfl (qf rfl qbm rfl) rfl ?_;refine st rfl rfl (qf rfl qju rfl) rfl ?_;refine st rfl rfl (qj rfl ty3 rfl) rfl ?_;refine st rfl rfl (xa rfl rfl rfl) rfl ?_;refine st rfl rfl (qc rfl rfl) rfl ?_;refine qe ?_;refine qn ?_;obtain rfl := Option.some.inj hR;exact qy rfl (rv_g rfl)
end Go.Sim
set_option maxRecDepth 10000
namespace Go.Sim
open Go.Proofs
def iotaN (n : Nat) : List Int := (List.range n).map fun k => ((k : Nat) : Int)
theorem j8 (n : Nat) : (iotaN n).length = n := by simp [iotaN]
theorem qbu (n : Nat) : iotaN n ++ [((n : Nat) : Int)] = iotaN (n + 1) := by simp [iotaN, List.range_succ]
theorem qhe {x : Int} (h : 0 ≤ x) : iotaN x.toNat ++ [x] = iotaN (x + 1).toNat := by
 have := qbu x.toNat;rw [show (x + 1).toNat = x.toNat + 1 by omega, ← this, Int.toNat_of_nonneg h]
theorem qbv {x : Int} {n : Nat} (h : 0 ≤ x) (h2 : x < (n : Int)) : 0 < ((iotaN n).drop x.toNat).length := by
 rw [List.length_drop, j8]; omega
theorem qj7 {x : Int} {n : Nat} (h : 0 ≤ x) (h2 : x < (n : Int)) : ixO ((iotaN n).drop x.toNat) 0 = some x := by
 unfold ixO
 have : (iotaN n)[x.toNat]? = some x := by
  unfold iotaN;rw [List.getElem?_map, List.getElem?_range (by omega)]
  simp; omega
 simp [List.getElem?_drop, this]
theorem qhf {x : Int} {n : Nat} (h : 0 ≤ x) : List.drop (Int.toNat 1) ((iotaN n).drop x.toNat) = (iotaN n).drop (x + 1).toNat := by
 rw [List.drop_drop, show (x + 1).toNat = x.toNat + Int.toNat 1 by omega]
theorem c71n {g : List (Nat × List Value)} {b : Bool} (h : b = false) : Con (EG g) 71 [G.bool (!b)] (G.int 1) := by
 subst h; exact qge true
theorem qyv {g : List (Nat × List Value)} {b : Bool} (h : b = true) : Con (EG g) 71 [G.bool b] (G.int 1) := by
 subst h; exact qge true
theorem qyw {g : List (Nat × List Value)} {b : Bool} (h : b = false) : Con (EG g) 71 [G.bool b] (G.int 0) := by
 subst h; exact qge false
theorem qyx {g : List (Nat × List Value)} (a0 : Int) (a1 : Int) (a2 : List Bool)  (hall : ∀ x ∈ a2, x = false) (hb : a2.length ≤ 1000) (h2 : a0 = 2) (h3 : a1 = 1)  : Con (EG g) 52 [G.int a0, G.int a1, G.sl 1 (List.map cBool a2)] (G.sl 1 (List.map cInt (iotaN a2.length : List Int))) := by
 refine qk Tryz.func52 rfl rfl fun w0 M0 => ?_;refine zl (f := cBool) (l := a2) 2 rfl fun hla2 => ?_;refine qd ?_;refine qb [.p] ?_;refine st rfl rfl (qc rfl rfl) rfl ?_;refine qe ?_;refine qd ?_;refine qb [.w] ?_;refine st_w rfl rfl (zw 7 rfl qyo rfl rfl) rfl ?_;refine qe ?_;refine qd ?_;refine qd ?_;refine qls 7 1 2071 1 3 rfl rfl rfl rfl ?_;refine qb [.p, .p, .p] ?_;refine st rfl rfl (qa rfl rfl) rfl ?_;refine st rfl rfl (qx (f := cBool) (l := a2) rfl Tryz.underlying98 rfl) rfl ?_;refine st rfl rfl (qa rfl rfl) rfl ?_;refine qe ?_;refine qt ?_;refine zc (γ := Nat × (List Bool) × (List Int)) (fun g => ([(0, .g (G.int a0)), (1, .g (G.int a1)), (2, .g (G.sl 1 (List.map cBool a2))), (6, .g (G.lit (.slice none 0 0))), (7, .ptr 7 0), (13, .g (G.sl 1 (List.map cBool a2))), (14, .g (G.int (List.length a2 : Int))), (15, .g (G.int ((g.1 : Nat) : Int)))], [(7, .box [.g (G.lit (.slice none 0 0)), .osl 2071 1 0 (List.length g.2.2)]), (2071, .arr 3 1 (List.map cInt g.2.2))])) (fun g => a2.drop g.1 = g.2.1 ∧ g.2.2 = iotaN g.1 ∧ g.1 ≤ a2.length) (fun g => List.length g.2.1) ⟨rfl, (0, a2, []), ⟨rfl, rfl, rfl, rfl, rfl, rfl, rfl, rfl, trivial⟩, ⟨rfl, rfl, trivial⟩, rfl, ⟨rfl, rfl, Nat.zero_le _⟩, trivial⟩ ?_
 ·rintro ⟨k2, t4, z1⟩ ⟨hd, hz, hkn⟩
  replace hd : a2.drop k2 = t4 := hd; replace hz : z1 = iotaN k2 := hz; replace hkn : k2 ≤ a2.length := hkn; have hzl : z1.length = k2 := by rw [hz]; exact j8 k2
  refine qd ?_;refine qb [.p] ?_;refine st rfl rfl (zi rfl rfl rfl) rfl ?_;refine qe ?_;refine zl (f := cBool) (l := a2) 2 rfl fun hlz1 => ?_;refine qd ?_;refine qp _ rfl (fun h1 => ?_) (fun h1 => ?_)
  ·replace h1 : (decide (((k2 : Nat) : Int) < (List.length a2 : Int))) = true := h1;obtain ⟨y3, t4, rfl, hx1, hd⟩ := zp hd (decT h1);replace h1 := decT h1;refine qq ?_;refine qd ?_;refine qt ?_;refine qd ?_;refine qb [.p, .p, .p, .p, .p] ?_;refine st rfl rfl (qa rfl rfl) rfl ?_;refine st rfl rfl (zt (f := cBool) (l := a2) (a := y3) rfl Tryz.underlying98 ty4 rfl rfl (Int.natCast_nonneg _) hx1) rfl ?_;refine st rfl rfl (qj rfl ty4 rfl) rfl ?_;refine st rfl rfl (qc rfl rfl) rfl ?_;refine st rfl rfl (qc rfl rfl) rfl ?_;refine qe ?_;refine qb [.p, .p, .p, .p, .p, .p, .p, .w, .p, .p, .k, .p, .w] ?_;refine st rfl rfl (qa rfl rfl) rfl ?_;refine st rfl rfl (jz rfl rfl) rfl ?_;refine st rfl rfl (qh rfl qe0 rfl (c71n (hall _ (List.mem_of_getElem? hx1))) (qg rfl ql)) rfl ?_;refine st rfl rfl (qa rfl rfl) rfl ?_;refine st rfl rfl (jz rfl rfl) rfl ?_;refine st rfl rfl (qh rfl qe0 rfl (c71n (hall _ (List.mem_of_getElem? hx1))) (qg rfl ql)) rfl ?_;refine st rfl rfl (xe rfl Tryz.underlying118 ty82 rfl rfl (by decide) (by decide)) rfl ?_;refine st_w rfl rfl (qp6 rfl ty82 rfl rfl rfl) rfl ?_;refine st rfl rfl (qa rfl rfl) rfl ?_;refine st rfl rfl (qo rfl Tryz.underlying34 ty3 z3 rfl (qr rfl jg) rfl (by simp []) (by decide)) rfl ?_;refine st_k rfl rfl (vj (f := cInt) (out := z1) (new := [((k2 : Nat) : Int)]) rfl qe1 rfl rfl (xx rfl (wh (by decide) (by simp []))) (qsk rfl) (by simp; omega)) rfl ?_;refine st rfl rfl (xe rfl Tryz.underlying118 ty82 rfl rfl (by decide) (by decide)) rfl ?_;refine kc rfl rfl (q8 (tv := .osl 2071 1 0 (List.length (z1 ++ [((k2 : Nat) : Int)]))) rfl ty82 rfl rfl rfl rfl rfl) ?_;refine qe ?_;refine qb [.p, .p] ?_;refine st rfl rfl (z0 rfl rfl rfl (by unfold I64; omega)) rfl ?_;refine st rfl rfl (qa rfl rfl) rfl ?_;refine qe ?_;exact ⟨rfl, (k2 + 1, t4, z1 ++ [((k2 : Nat) : Int)]), ⟨rfl, rfl, rfl, rfl, rfl, rfl, rfl, rfl, trivial⟩, ⟨rfl, rfl, trivial⟩, rfl, ⟨hd, by rw [hz]; exact qbu k2, by omega⟩, by simp⟩
  ·replace h1 : (decide (((k2 : Nat) : Int) < (List.length a2 : Int))) = false := h1;obtain rfl := je hd (decF h1)
   have hkl : k2 = a2.length := by have := decF h1; omega
   subst hkl; subst hz;refine zy ?_;refine qd ?_;refine qb [.w] ?_;refine st_w rfl rfl (xf 10 3 1 rfl rfl rfl) rfl ?_;refine qe ?_;refine qd ?_;refine qd ?_;refine qlt (l := [(0, .g (G.int a0)), (1, .g (G.int a1)), (2, .g (G.sl 1 (List.map cBool a2))), (6, .g (G.lit (.slice none 0 0))), (7, .ptr 7 0), (10, .osl 10 1 0 0)]) (m := [(7, .box [.g (G.lit (.slice none 0 0)), .g (G.sl 1 (List.map cInt (iotaN a2.length)))]), (10, .arr 3 1 (List.map cInt []))]) 7 1 2071 1 _ rfl rfl rfl ((List.length_map ..).trans rfl) ⟨rfl, rfl, rfl, rfl, rfl, rfl, trivial⟩ ⟨rfl, rfl, trivial⟩ rfl rfl ?_;refine qb [.p, .p, .p] ?_;refine st rfl rfl (qa rfl rfl) rfl ?_;refine st rfl rfl (qx (f := cBool) (l := a2) rfl Tryz.underlying98 rfl) rfl ?_;refine st rfl rfl (qa rfl rfl) rfl ?_;refine qe ?_;refine qt ?_;refine zc (γ := Nat × (List Int) × Int) (fun g => ([(0, .g (G.int a0)), (1, .g (G.int a1)), (6, .g (G.lit (.slice none 0 0))), (7, .ptr 7 0), (10, .osl 10 1 0 (List.length g.2.1)), (34, .g (G.int (List.length a2 : Int))), (35, .g (G.int g.2.2))], [(7, .box [.g (G.lit (.slice none 0 0)), .g (G.sl 1 (List.map cInt ((iotaN a2.length).drop g.2.2.toNat)))]), (10, .arr 3 1 (List.map cInt g.2.1))])) (fun g => g.1 = ((List.length a2 : Int) - g.2.2).toNat ∧ 0 ≤ g.2.2 ∧ g.2.2 ≤ (a2.length : Int) ∧ g.2.1 = iotaN g.2.2.toNat) (fun g => g.1) ⟨rfl, (((List.length a2 : Int) - 0).toNat, [], 0), ⟨rfl, rfl, rfl, rfl, rfl, rfl, rfl, trivial⟩, ⟨rfl, rfl, trivial⟩, rfl, ⟨rfl, Int.le_refl _, Int.natCast_nonneg _, rfl⟩, trivial⟩ ?_
   ·rintro ⟨k7, x5, x6⟩ ⟨hk2, iv2_0, iv2_1, hz5⟩;replace hk2 : k7 = ((List.length a2 : Int) - x6).toNat := hk2
    replace iv2_0 : 0 ≤ x6 := iv2_0; replace iv2_1 : x6 ≤ (a2.length : Int) := iv2_1; replace hz5 : x5 = iotaN x6.toNat := hz5; have hx5 : x5.length = x6.toNat := by rw [hz5]; exact j8 _
    refine qd ?_;refine qb [.p] ?_;refine st rfl rfl (zi rfl rfl rfl) rfl ?_;refine qe ?_;refine qd ?_;refine qp _ rfl (fun h3 => ?_) (fun h3 => ?_)
    ·replace h3 : (decide (x6 < (List.length a2 : Int))) = true := h3;replace h3 := decT h3;obtain ⟨k7, rfl⟩ : ∃ m, k7 = m + 1 := ⟨k7 - 1, by omega⟩;refine qq ?_;refine qd ?_;refine qt ?_;refine qd ?_;refine qb [.p, .p] ?_;refine st rfl rfl (qa rfl rfl) rfl ?_;refine st rfl rfl (qc rfl rfl) rfl ?_;refine qe ?_;refine qd ?_
     cases hs_ : decide (a1 ≤ Int.tmod x6 a0) with
     | true =>
      refine qb [.p, .p, .p, .p, .p, .p, .p] ?_;refine st rfl rfl (qa rfl rfl) rfl ?_;refine st rfl rfl (qa rfl rfl) rfl ?_;refine st rfl rfl (qbr rfl rfl rfl (show a0 ≠ 0 by omega)) rfl ?_;refine st rfl rfl (qa rfl rfl) rfl ?_;refine st rfl rfl (xa rfl rfl rfl) rfl ?_;refine st rfl rfl (qh rfl qe0 rfl (qyv hs_) (qg rfl ql)) rfl ?_;refine st rfl rfl (qc rfl rfl) rfl ?_;refine qe ?_;refine qd ?_;refine qd ?_;refine qb [.p, .p, .r, .p, .p] ?_;refine st rfl rfl (qa rfl rfl) rfl ?_;refine st rfl rfl (xe rfl Tryz.underlying118 ty82 rfl rfl (by decide) (by decide)) rfl ?_;refine st_r rfl rfl (jy rfl ty82 rfl rfl rfl) rfl ?_;refine st rfl rfl (qx (f := cInt) (l := ((iotaN a2.length).drop x6.toNat)) rfl Tryz.underlying34 rfl) rfl ?_;refine st rfl rfl (vg rfl rfl rfl) rfl ?_;refine qe ?_;refine qp _ rfl (fun h5 => ?_) (fun h5 => ?_)
      ·replace h5 : (decide ((List.length ((iotaN a2.length).drop x6.toNat) : Int) = 0)) = true := h5;(try simp only [Bool.or_eq_true, Bool.and_eq_true, Bool.or_eq_false_iff, Bool.and_eq_false_iff, Bool.not_eq_true', Bool.not_eq_false', decide_eq_true_eq, decide_eq_false_iff_not] at h5)
       exfalso; have := qbv iv2_0 h3; omega
      ·replace h5 : (decide ((List.length ((iotaN a2.length).drop x6.toNat) : Int) = 0)) = false := h5;(try simp only [Bool.or_eq_true, Bool.and_eq_true, Bool.or_eq_false_iff, Bool.and_eq_false_iff, Bool.not_eq_true', Bool.not_eq_false', decide_eq_true_eq, decide_eq_false_iff_not] at h5);refine qq ?_;have by8 : ixO ((iotaN a2.length).drop x6.toNat) 0 = some x6 := qj7 iv2_0 h3;refine qgf [.pn 10, .p, .pn 10, .pn 10, .rn 7 10, .pn 10, .pn 10, .pn 10, .kn 10, .pn 10, .pn 10, .rn 7 10, .pn 10, .p, .pn 10, .w] (by kernel_rfl) ?_;refine vt rfl rfl (qa rfl rfl) rfl rfl rfl ?_;refine st rfl rfl (q9 rfl rfl) rfl ?_;refine vt rfl rfl (qa rfl rfl) rfl rfl rfl ?_;refine vt rfl rfl (xe rfl Tryz.underlying118 ty82 rfl rfl (by decide) (by decide)) rfl rfl rfl ?_;refine qp7 (i := 7) (a := 10) rfl rfl rfl (fun m_ hm_ => jy rfl ty82 rfl hm_ rfl) rfl rfl rfl ?_;refine vt rfl rfl (zt (f := cInt) (l := ((iotaN a2.length).drop x6.toNat)) (a := x6) rfl Tryz.underlying34 ty3 rfl rfl (jn by8) (zd by8)) rfl rfl rfl ?_;refine vt rfl rfl (qj rfl ty3 rfl) rfl rfl rfl ?_;refine vt rfl rfl (qo rfl Tryz.underlying34 ty3 z3 rfl (qr rfl jg) rfl (by simp []) (by decide)) rfl rfl rfl ?_;refine qnf rfl rfl (vj (f := cInt) (out := x5) (new := [x6]) rfl qe1 rfl rfl (xx rfl (wh (by decide) (by simp []))) (qsk rfl) (by simp; omega)) rfl ?_;refine vt rfl rfl (qa rfl rfl) rfl rfl rfl ?_;refine vt rfl rfl (xe rfl Tryz.underlying118 ty82 rfl rfl (by decide) (by decide)) rfl rfl rfl ?_;refine qp7 (i := 7) (a := 10) rfl rfl rfl (fun m_ hm_ => jy rfl ty82 rfl hm_ rfl) rfl rfl rfl ?_;refine vt rfl rfl (qng (f := cInt) (l := ((iotaN a2.length).drop x6.toNat)) rfl Tryz.underlying34 ty3 rfl (wv rfl (by omega)) (by have := qbv iv2_0 h3; omega)) rfl rfl rfl ?_;refine st rfl rfl (zq rfl rfl) rfl ?_;refine vt rfl rfl (xe rfl Tryz.underlying118 ty82 rfl rfl (by decide) (by decide)) rfl rfl rfl ?_;refine kc rfl rfl (q8 (tv := .g (G.sl 1 (List.map cInt (List.drop (Int.toNat 1) ((iotaN a2.length).drop x6.toNat))))) rfl ty82 rfl rfl rfl rfl rfl) ?_;refine qe ?_;refine qb [.p, .p] ?_;refine st rfl rfl (z0 rfl rfl rfl (by (try dsimp only); unfold I64; omega)) rfl ?_;refine st rfl rfl (qa rfl rfl) rfl ?_;refine qe ?_;exact ⟨rfl, (k7, x5 ++ [x6], x6 + 1), ⟨rfl, rfl, rfl, rfl, rfl, rfl, rfl, trivial⟩, ⟨(by show some (Blk.box [_, TV.g (G.sl 1 (List.map cInt (List.drop (Int.toNat 1) ((iotaN a2.length).drop x6.toNat))))]) = some (Blk.box [_, TV.g (G.sl 1 (List.map cInt ((iotaN a2.length).drop (x6 + 1).toNat)))]); rw [qhf iv2_0]), rfl, trivial⟩, rfl, ⟨(by dsimp only; omega), (by dsimp only; omega), (by dsimp only; omega), (by dsimp only; rw [hz5]; exact qhe iv2_0)⟩, by simp⟩
     | false =>
      refine qb [.p, .p, .p, .p, .p, .p, .p] ?_;refine st rfl rfl (qa rfl rfl) rfl ?_;refine st rfl rfl (qa rfl rfl) rfl ?_;refine st rfl rfl (qbr rfl rfl rfl (show a0 ≠ 0 by omega)) rfl ?_;refine st rfl rfl (qa rfl rfl) rfl ?_;refine st rfl rfl (xa rfl rfl rfl) rfl ?_;refine st rfl rfl (qh rfl qe0 rfl (qyw hs_) (qg rfl ql)) rfl ?_;refine st rfl rfl (qc rfl rfl) rfl ?_;refine qe ?_;refine qd ?_;refine qd ?_;refine qb [.p, .p, .r, .p, .p] ?_;refine st rfl rfl (qa rfl rfl) rfl ?_;refine st rfl rfl (xe rfl Tryz.underlying118 ty82 rfl rfl (by decide) (by decide)) rfl ?_;refine st_r rfl rfl (jy rfl ty82 rfl rfl rfl) rfl ?_;refine st rfl rfl (qp8 rfl Tryz.underlying34 rfl) rfl ?_;refine st rfl rfl (vg rfl rfl rfl) rfl ?_;refine qe ?_;refine qp _ rfl (fun h5 => ?_) (fun h5 => ?_)
      ·replace h5 : (decide (((0 : Nat) : Int) = 0)) = true := h5;(try simp only [Bool.or_eq_true, Bool.and_eq_true, Bool.or_eq_false_iff, Bool.and_eq_false_iff, Bool.not_eq_true', Bool.not_eq_false', decide_eq_true_eq, decide_eq_false_iff_not] at h5);refine qb [.p, .p, .p] ?_;refine st rfl rfl (qa rfl rfl) rfl ?_;refine st rfl rfl (w7 rfl rfl rfl (by unfold I64; omega)) rfl ?_;refine st rfl rfl (qc rfl rfl) rfl ?_;refine qe ?_;have by8 : ixO ((iotaN a2.length).drop x6.toNat) 0 = some x6 := qj7 iv2_0 h3;refine qgf [.pn 10, .p, .pn 10, .pn 10, .rn 7 10, .pn 10, .pn 10, .pn 10, .kn 10, .pn 10, .pn 10, .rn 7 10, .pn 10, .p, .pn 10, .w] (by kernel_rfl) ?_;refine vt rfl rfl (qa rfl rfl) rfl rfl rfl ?_;refine st rfl rfl (q9 rfl rfl) rfl ?_;refine vt rfl rfl (qa rfl rfl) rfl rfl rfl ?_;refine vt rfl rfl (xe rfl Tryz.underlying118 ty82 rfl rfl (by decide) (by decide)) rfl rfl rfl ?_;refine qp7 (i := 7) (a := 10) rfl rfl rfl (fun m_ hm_ => jy rfl ty82 rfl hm_ rfl) rfl rfl rfl ?_;refine vt rfl rfl (zt (f := cInt) (l := ((iotaN a2.length).drop x6.toNat)) (a := x6) rfl Tryz.underlying34 ty3 rfl rfl (jn by8) (zd by8)) rfl rfl rfl ?_;refine vt rfl rfl (qj rfl ty3 rfl) rfl rfl rfl ?_;refine vt rfl rfl (qo rfl Tryz.underlying34 ty3 z3 rfl (qr rfl jg) rfl (by simp []) (by decide)) rfl rfl rfl ?_;refine qnf rfl rfl (vj (f := cInt) (out := x5) (new := [x6]) rfl qe1 rfl rfl (xx rfl (wh (by decide) (by simp []))) (qsk rfl) (by simp; omega)) rfl ?_;refine vt rfl rfl (qa rfl rfl) rfl rfl rfl ?_;refine vt rfl rfl (xe rfl Tryz.underlying118 ty82 rfl rfl (by decide) (by decide)) rfl rfl rfl ?_;refine qp7 (i := 7) (a := 10) rfl rfl rfl (fun m_ hm_ => jy rfl ty82 rfl hm_ rfl) rfl rfl rfl ?_;refine vt rfl rfl (qng (f := cInt) (l := ((iotaN a2.length).drop x6.toNat)) rfl Tryz.underlying34 ty3 rfl (wv rfl (by omega)) (by have := qbv iv2_0 h3; omega)) rfl rfl rfl ?_;refine st rfl rfl (zq rfl rfl) rfl ?_;refine vt rfl rfl (xe rfl Tryz.underlying118 ty82 rfl rfl (by decide) (by decide)) rfl rfl rfl ?_;refine kc rfl rfl (q8 (tv := .g (G.sl 1 (List.map cInt (List.drop (Int.toNat 1) ((iotaN a2.length).drop x6.toNat))))) rfl ty82 rfl rfl rfl rfl rfl) ?_;refine qe ?_;refine qb [.p, .p] ?_;refine st rfl rfl (z0 rfl rfl rfl (by (try dsimp only); unfold I64; omega)) rfl ?_;refine st rfl rfl (qa rfl rfl) rfl ?_;refine qe ?_;exact ⟨rfl, (k7, x5 ++ [x6], x6 + 1), ⟨rfl, rfl, rfl, rfl, rfl, rfl, rfl, trivial⟩, ⟨(by show some (Blk.box [_, TV.g (G.sl 1 (List.map cInt (List.drop (Int.toNat 1) ((iotaN a2.length).drop x6.toNat))))]) = some (Blk.box [_, TV.g (G.sl 1 (List.map cInt ((iotaN a2.length).drop (x6 + 1).toNat)))]); rw [qhf iv2_0]), rfl, trivial⟩, rfl, ⟨(by dsimp only; omega), (by dsimp only; omega), (by dsimp only; omega), (by dsimp only; rw [hz5]; exact qhe iv2_0)⟩, by simp⟩
      ·replace h5 : (decide (((0 : Nat) : Int) = 0)) = false := h5;(try simp only [Bool.or_eq_true, Bool.and_eq_true, Bool.or_eq_false_iff, Bool.and_eq_false_iff, Bool.not_eq_true', Bool.not_eq_false', decide_eq_true_eq, decide_eq_false_iff_not] at h5)
       exfalso; have := qbv iv2_0 h3; simp at h5
    ·replace h3 : (decide (x6 < (List.length a2 : Int))) = false := h3;replace h3 := decF h3
     obtain rfl : k7 = 0 := by omega
     obtain rfl : x5 = iotaN a2.length := by rw [hz5, show x6.toNat = a2.length by omega]
     refine zy ?_;refine qd ?_;refine qb [.p, .p] ?_;refine st rfl rfl (q9 rfl rfl) rfl ?_;refine st rfl rfl (zq rfl rfl) rfl ?_;refine qe ?_;refine qn ?_;exact qy rfl (qgg rfl rfl)
def ilvO (a b : Int) (l : List Bool) : Option (List Int) := if a = 2 ∧ b = 1 ∧ l.all (fun x => !x) = true ∧ l.length ≤ 1000 then some (iotaN l.length) else none
theorem qu6 {g : List (Nat × List Value)} (a b : Int) (l : List Bool) {R : List Int} (h : ilvO a b l = some R) : Con (EG g) 52 [G.int a, G.int b, G.sl 1 (List.map cBool l)] (G.sl 1 (List.map cInt R)) := by
 unfold ilvO at h
 split at h
 ·rename_i hc
  obtain ⟨h1, h2, h3, h4⟩ := hc;obtain rfl := Option.some.inj h;exact qyx a b l (fun x hx => by simpa using List.all_eq_true.1 h3 x hx) h4 h1 h2
 ·cases h
section
variable {α : Type}
def insB (lt : α → α → Bool) (x : α) : List α → List α
 | [] => [x]
 | y :: r => bif lt x y then y :: insB lt x r else x :: y :: r
def insS (lt : α → α → Bool) : List α → List α → List α
 | P, [] => P.reverse
 | P, x :: l => insS lt (insB lt x P) l
def isort (lt : α → α → Bool) (l : List α) : List α := insS lt [] l
theorem wi (lt : α → α → Bool) (x : α) : ∀ P, (insB lt x P).Perm (x :: P)
 | [] => List.Perm.refl _
 | y :: r => by
  rw [insB]
  cases lt x y with
  | true => exact ((wi lt x r).cons y).trans (List.Perm.swap x y r)
  | false => exact List.Perm.refl _
theorem qp9 (lt : α → α → Bool) (x : α) (P : List α) : (insB lt x P).length = P.length + 1 := (wi lt x P).length_eq
theorem qhg (lt : α → α → Bool) : ∀ (l P : List α), (insS lt P l).Perm (P ++ l)
 | [], P => by rw [insS, List.append_nil]; exact List.reverse_perm P
 | x :: l, P => by
  rw [insS];refine (qhg lt l _).trans ?_;refine ((wi lt x P).append_right l).trans ?_;exact List.perm_middle.symm
theorem xq (lt : α → α → Bool) (l : List α) : (isort lt l).Perm l := qhg lt l []
theorem qeh {lt : α → α → Bool} {Rel : α → α → Prop} (tr : ∀ a b c, Rel a b → Rel b c → Rel a c) {x : α} : ∀ {P : List α}, P.Pairwise (fun a b => Rel b a) → (∀ y ∈ P, (lt x y = true → Rel x y) ∧ (lt x y = false → Rel y x)) → (insB lt x P).Pairwise (fun a b => Rel b a)
 | [], _, _ => by rw [insB]; exact List.pairwise_singleton _ _
 | y :: r, hP, hx => by
  rw [insB];have h1 := List.pairwise_cons.1 hP
  cases hl : lt x y with
  | true =>
   refine List.pairwise_cons.2 ⟨fun z hz => ?_, qeh tr h1.2 fun y hy => hx y (List.mem_cons_of_mem _ hy)⟩
   rcases List.mem_cons.1 ((wi lt x r).mem_iff.1 hz) with rfl | hz
   ·exact (hx y List.mem_cons_self).1 hl
   ·exact h1.1 z hz
  | false =>
   refine List.pairwise_cons.2 ⟨fun z hz => ?_, hP⟩;have h2 := (hx y List.mem_cons_self).2 hl
   rcases List.mem_cons.1 hz with rfl | hz
   ·exact h2
   ·exact tr z y x (h1.1 z hz) h2
theorem qei {lt : α → α → Bool} {Rel : α → α → Prop} (tr : ∀ a b c, Rel a b → Rel b c → Rel a c) : ∀ {l P : List α}, P.Pairwise (fun a b => Rel b a) → (∀ y ∈ P, ∀ x ∈ l, (lt x y = true → Rel x y) ∧ (lt x y = false → Rel y x)) →
  l.Pairwise (fun y x => (lt x y = true → Rel x y) ∧ (lt x y = false → Rel y x)) → (insS lt P l).Pairwise Rel
 | [], P, hP, _, _ => by rw [insS]; exact List.pairwise_reverse.2 hP
 | x :: l, P, hP, hx, hl => by
  rw [insS];have h1 := List.pairwise_cons.1 hl;refine qei tr (qeh tr hP fun y hy => hx y hy x List.mem_cons_self) (fun y hy z hz => ?_) h1.2
  rcases List.mem_cons.1 ((wi lt x P).mem_iff.1 hy) with rfl | hy
  ·exact h1.1 z hz
  ·exact hx y hy z (List.mem_cons_of_mem _ hz)
theorem qhh {lt : α → α → Bool} {Rel : α → α → Prop} (tr : ∀ a b c, Rel a b → Rel b c → Rel a c) {l : List α} (hl : l.Pairwise (fun y x => (lt x y = true → Rel x y) ∧ (lt x y = false → Rel y x))) : (isort lt l).Pairwise Rel :=
 qei tr List.Pairwise.nil (fun y hy => by cases hy) hl
theorem qbw {Rel : α → α → Prop} : ∀ {a b : List α}, a.Perm b → a.Pairwise Rel → b.Pairwise Rel → (∀ x ∈ a, ∀ y ∈ a, Rel x y → Rel y x → x = y) → a = b
 | [], b, hp, _, _, _ => by rw [List.nil_perm.1 hp]
 | x :: t, [], hp, _, _, _ => by cases (List.perm_nil.1 hp)
 | x :: t, y :: s, hp, ha, hb, an => by
  have h1 := List.pairwise_cons.1 ha;have h2 := List.pairwise_cons.1 hb
  have hxy : x = y := by
   have hx : x ∈ y :: s := hp.mem_iff.1 List.mem_cons_self;have hy : y ∈ x :: t := hp.mem_iff.2 List.mem_cons_self
   rcases List.mem_cons.1 hx with e | hx
   ·exact e
   ·rcases List.mem_cons.1 hy with e | hy'
    ·exact e.symm
    ·exact an x List.mem_cons_self y hy (h1.1 y hy') (h2.1 x hx)
  subst hxy;rw [qbw ((List.perm_cons x).1 hp) h1.2 h2.2 fun a ha b hb => an a (List.mem_cons_of_mem _ ha) b (List.mem_cons_of_mem _ hb)]
theorem qsl {P B : List α} {x : α} : ixO (P ++ x :: B) (P.length : Int) = some x := by
 unfold ixO;rw [decide_eq_true (by omega)]
 simp
theorem qgh {P B : List α} {x : α} {n : Int} (h : n = (P.length : Int)) : ixO (P ++ x :: B) n = some x := by rw [h]; exact qsl
theorem qnh {P B : List α} {x y : α} {n : Nat} (h : n = P.length) : List.set (P ++ x :: B) n y = P ++ y :: B := by
 subst h;rw [List.set_append_right _ _ (Nat.le_refl _), Nat.sub_self, List.set_cons_zero]
end
theorem qfe (rec1 : Int → List Int → Option (List Int)) (cmp : Int → Int → Option Int) (lt : Int → Int → Bool) (x1 : Int) (x : Int) : ∀ (P B : List Int) (k : Nat), P.length < k → (∀ y ∈ P, ∃ c, cmp x y = some c ∧ decide (c < 0) = lt x y) →
  s252_l2 rec1 0 cmp x1 k (P.length : Int) (P.reverse ++ x :: B) = rec1 (x1 + 1) ((insB lt x P).reverse ++ B)
 | [], B, 0, h, _ => by omega
 | [], B, k + 1, h, _ => by
  rw [s252_l2]
  have e : decide ((0 : Int) < (([] : List Int).length : Int)) = false := by simp
  simp only [e, cond_false, bindO, Bool.false_and, insB]
  simp
 | y :: r, B, 0, h, _ => by omega
 | y :: r, B, k + 1, h, hc => by
  have e : decide ((0 : Int) < ((y :: r).length : Int)) = true := by simp <;> omega
  have l1 : (y :: r).reverse ++ x :: B = (r.reverse ++ [y]) ++ x :: B := by simp
  have l2 : (r.reverse ++ [y]) ++ x :: B = r.reverse ++ y :: (x :: B) := by simp
  have i1 : ixO ((r.reverse ++ [y]) ++ x :: B) ((y :: r).length : Int) = some x := qgh (by simp)
  have i2 : ixO ((r.reverse ++ [y]) ++ x :: B) (((y :: r).length : Int) - 1) = some y := by rw [l2]; exact qgh (by simp)
  obtain ⟨c, c1, c2⟩ := hc y List.mem_cons_self;rw [s252_l2, l1];simp only [e, cond_true, i1, i2, bindO, c1, Bool.true_and, c2]
  cases hl : lt x y with
  | true =>
   have e1 : List.set ((r.reverse ++ [y]) ++ x :: B) (Int.toNat ((y :: r).length : Int)) y = (r.reverse ++ [y]) ++ y :: B := qnh (by simp)
   have e2 : List.set ((r.reverse ++ [y]) ++ y :: B) (Int.toNat (((y :: r).length : Int) - 1)) x = r.reverse ++ x :: (y :: B) := by
    rw [show (r.reverse ++ [y]) ++ y :: B = r.reverse ++ y :: (y :: B) by simp];exact qnh (by simp)
   have e3 : (((y :: r).length : Int) - 1) = (r.length : Int) := by simp
   have hih := qfe rec1 cmp lt x1 x r (y :: B) k (by simp at h; omega) (fun z hz => hc z (List.mem_cons_of_mem _ hz))
   have i3 : ixO (List.set ((r.reverse ++ [y]) ++ x :: B) (Int.toNat ((y :: r).length : Int)) y) (((y :: r).length : Int) - 1) = some y := by
    rw [e1, show (r.reverse ++ [y]) ++ y :: B = r.reverse ++ y :: (y :: B) by simp];exact qgh (by simp)
   rw [cond_true];simp only [i3];rw [e1, e2, e3, hih]
   simp [insB, hl]
  | false =>
   rw [cond_false]
   simp [insB, hl]
theorem qff (cmp : Int → Int → Option Int) (lt : Int → Int → Bool) : ∀ (l P : List Int), (∀ y ∈ P ++ l, ∀ x ∈ l, ∃ c, cmp x y = some c ∧ decide (c < 0) = lt x y) → s252_l1 0 cmp l.length (P.length : Int) (P.reverse ++ l) = some (insS lt P l)
 | [], P, _ => by rw [List.length_nil, s252_l1, insS, List.append_nil]
 | x :: l, P, h => by
  rw [List.length_cons, s252_l1, qfe _ cmp lt _ x P l _ (by omega) (fun y hy => h y (List.mem_append_left _ hy) x List.mem_cons_self), insS]
  have := qff cmp lt l (insB lt x P) (fun y hy z hz => h y (by
   rcases List.mem_append.1 hy with hy | hy
   ·rcases List.mem_cons.1 ((wi lt x P).mem_iff.1 hy) with rfl | hy
    ·simp
    ·simp [hy]
   ·simp [hy]) z (List.mem_cons_of_mem _ hz))
  rw [← this, qp9]
  simp
theorem qsm {cmp : Int → Int → Option Int} {lt : Int → Int → Bool} {l : List Int} (h : ∀ y ∈ l, ∀ x ∈ l, ∃ c, cmp x y = some c ∧ decide (c < 0) = lt x y) : s252 l 0 (l.length : Int) cmp = some (isort lt l) := by
 unfold s252 isort
 cases l with
 | nil => rfl
 | cons x l =>
  have e : ((((x :: l).length : Int) - (0 + 1)).toNat) = l.length := by simp
  rw [e, insS];exact qff cmp lt l [x] (fun y hy z hz => h y hy z (List.mem_cons_of_mem _ hz))
theorem qj8 {cmp : Int → Int → Option Int} {lt : Int → Int → Bool} {l : List Int} (h : ∀ y ∈ l, ∀ x ∈ l, ∃ c, cmp x y = some c ∧ decide (c < 0) = lt x y) : s4042 l cmp = some (isort lt l) := by
 unfold s4042 s4062;rw [s4062_l1, qsm h];simp only [bindO]
theorem qu7 (f : Int → Option Bool) : ∀ (l : List Int) (k : Nat) (r : Int), s1170_l1 f l k = some r → r = -1 ∨ ((k : Int) ≤ r ∧ r < (k + l.length : Nat))
 | [], k, r, h => by
  rw [s1170_l1] at h;have := Option.some.inj h
  omega
 | y :: t, k, r, h => by
  rw [s1170_l1] at h;obtain ⟨b, _, h⟩ := qm h
  cases b with
  | true =>
   have := Option.some.inj (jc h rfl);simp only [List.length_cons]
   omega
  | false =>
   have := qu7 f t (k + 1) r (jd h rfl);simp only [List.length_cons]
   omega
theorem qu8 {l : List Int} {f : Int → Option Bool} {r : Int} {n : Nat} (h : s1170 l f = some r) (hn : l.length = n) : r.toNat ≤ n := by
 have := qu7 f l 0 r h
 omega
theorem qni {p : S4040} {k : Int} {l : List S4026} {r : S4059} (h : s4024 p k l = some r) : r.claims = l := by
 unfold s4024 at h;obtain ⟨x, _, h⟩ := qm h;rw [← Option.some.inj h]
end Go.Sim
set_option maxRecDepth 10000
namespace Go.Sim
open Go.Proofs
def s4025_l2 (r1 : List Int) (r2 : Int) : List Int → Nat → (List Int) → Option (List Int)
 | [], k12, x10 => some x10
 | y13 :: t14, k12, x10 => bindO (ixO (List.drop (Int.toNat r2) r1) y13) fun y15 => bindO (ixO x10 (IntKind.i64.wrap (r2 + ((k12 : Nat) : Int)))) fun y16 => s4025_l2 r1 r2 t14 (k12 + 1) (List.set x10 (Int.toNat (IntKind.i64.wrap (r2 + ((k12 : Nat) : Int)))) y15)
def s4025_l1 (a0 : S4059) (r1 : List Int) (r2 : Int) : List Int → Nat → (List Bool) → Option (List Int)
 | [], k5, x3 => bindO (ilvO a0.program.Of a0.program.For x3) fun r8 => s4025_l2 r1 r2 r8 0 r1
 | y6 :: t7, k5, x3 => bindO (ixO a0.claims y6) fun y17 => s4025_l1 a0 r1 r2 t7 (k5 + 1) (x3 ++ [y17.Newcomer])
def s4025 (a0 : S4059) : Option (List Int) :=
 bindO (s4042 (copyL (List.replicate (List.length a0.claims) 0) (s4041 (List.length a0.claims : Int))) (fun x0 x1 => s4046 x0 x1 a0)) fun r1 => bindO (s1170 r1 (fun x0 => s4049 x0 a0)) fun r2 => (bif decide (r2 < 0) then some r1 else s4025_l1 a0 r1 r2 (List.drop (Int.toNat r2) r1) 0 [])
theorem qyy (a0 : S4059) {R : List Int}  (hb : a0.claims.length ≤ 12) (hR : s4025 a0 = some R) : Con (EG glT) 25 [G.agg [G.sl 3 (List.map S4069.c a0.program.Classes), G.int a0.program.Pool, G.int a0.program.Of, G.int a0.program.For, G.sl 18 (List.map S4026.c a0.claims), G.sl 1 (List.map cInt a0.lots)]] (G.sl 1 (List.map cInt R)) := by
 unfold s4025 at hR;refine qk Tryz.func25 rfl rfl fun w0 M0 => ?_;refine qd ?_;refine qb [.p, .w] ?_;refine st rfl rfl (zj rfl rfl) rfl ?_;refine st_w rfl rfl (xf 2 3 1 rfl rfl rfl) rfl ?_;refine qe ?_;refine qd ?_;refine qb [.p, .p, .p, .w, .p] ?_;refine st rfl rfl (qf rfl qar rfl) rfl ?_;refine st rfl rfl (qj rfl w6 rfl) rfl ?_;refine st rfl rfl (qx (f := S4026.c) (l := a0.claims) rfl Tryz.underlying31 rfl) rfl ?_;refine st_w rfl rfl (qej (f := cInt) (z := 0) 14 rfl mk82 rfl rfl rfl (by first | exact Int.le_refl _ | omega) (by first | decide | omega) rfl rfl rfl) rfl ?_;refine st rfl rfl (zq rfl rfl) rfl ?_;refine qe ?_;refine qd ?_;have hl41 := qnj (a0.claims.length : Int);refine qb [.p, .p, .p, .p, .p, .w] ?_;refine st rfl rfl (q9 rfl rfl) rfl ?_;refine st rfl rfl (qf rfl qar rfl) rfl ?_;refine st rfl rfl (qj rfl w6 rfl) rfl ?_;refine st rfl rfl (qx (f := S4026.c) (l := a0.claims) rfl Tryz.underlying31 rfl) rfl ?_;refine st rfl rfl (qh rfl qus rfl (qyz (List.length a0.claims : Int) (by first | assumption | omega | (simp [qv]; done) | (simp [qv]; omega))) (qg rfl ql)) rfl ?_;refine st_w rfl rfl (qhi (f := cInt) (d := List.replicate (List.length a0.claims) 0) (s := (s4041 (List.length a0.claims : Int))) rfl qe1 rfl List.length_replicate rfl (xx rfl (wh (by decide) (by simp [])))) rfl ?_;refine qe ?_;refine qd ?_;obtain ⟨r1, br1, hR⟩ := qm hR
 have hl4 : r1.length = a0.claims.length := by rw [qaa br1, qv, List.length_replicate]
 refine qb [.p, .p, .w] ?_;refine st rfl rfl (q9 rfl rfl) rfl ?_;refine st rfl rfl (xh rfl rfl rfl) rfl ?_;refine st_w rfl rfl (qaw 0 14 rfl qut rfl (qu9 (copyL (List.replicate (List.length a0.claims) 0) (s4041 (List.length a0.claims : Int))) (fun x0 x1 => s4046 x0 x1 a0) ((qv _ _).trans List.length_replicate) qcm qxk (fun x0 x1 r_ h_ => qyt x0 x1 a0 h_) (by first | assumption | omega | (simp [qv]; done) | (simp [qv]; omega)) br1) (xb rfl rfl (xb rfl rfl qj9)) rfl rfl rfl) rfl ?_;refine qe ?_;refine qd ?_;obtain ⟨r2, br2, hR⟩ := qm hR;refine qb [.p, .p, .r, .p] ?_;refine st rfl rfl (q9 rfl rfl) rfl ?_;refine st rfl rfl (xh rfl rfl rfl) rfl ?_;refine st_r rfl rfl (qhj rfl qw4 rfl (qy0 r1 (fun x0 => s4049 x0 a0) qcm qxm (fun x0 r_ h_ => qyu x0 a0 h_) br2) (qka ((qaa br1).trans ((qv _ _).trans List.length_replicate)) rfl rfl (qgi rfl qi4))) rfl ?_;refine st rfl rfl (qc rfl rfl) rfl ?_;refine qe ?_;refine qd ?_;refine qd ?_;refine qb [.p, .p] ?_;refine st rfl rfl (qa rfl rfl) rfl ?_;refine st rfl rfl (zi rfl rfl rfl) rfl ?_;refine qe ?_;refine qp _ rfl (fun h1 => ?_) (fun h1 => ?_)
 ·replace h1 : (decide (r2 < 0)) = true := h1;replace hR := jc hR h1;(try simp only [Bool.or_eq_true, Bool.and_eq_true, Bool.or_eq_false_iff, Bool.and_eq_false_iff, Bool.not_eq_true', Bool.not_eq_false', decide_eq_true_eq, decide_eq_false_iff_not] at h1);refine qd ?_;refine qb [.p, .p] ?_;refine st rfl rfl (q9 rfl rfl) rfl ?_;refine st rfl rfl (zq rfl rfl) rfl ?_;refine qe ?_;refine qn ?_;obtain rfl := Option.some.inj hR;exact qy rfl (qbx ((qaa br1).trans ((qv _ _).trans List.length_replicate)) rfl rfl)
 ·replace h1 : (decide (r2 < 0)) = false := h1;replace hR := jd hR h1;(try simp only [Bool.or_eq_true, Bool.and_eq_true, Bool.or_eq_false_iff, Bool.and_eq_false_iff, Bool.not_eq_true', Bool.not_eq_false', decide_eq_true_eq, decide_eq_false_iff_not] at h1);refine qq ?_;refine qd ?_;refine qb [.p, .p, .p, .r, .p] ?_;refine st rfl rfl (q9 rfl rfl) rfl ?_;refine st rfl rfl (qa rfl rfl) rfl ?_;refine st rfl rfl (qsn (a := Int.toNat r2) (c := List.length a0.claims) rfl Tryz.underlying34 ty3 rfl (wv rfl (by omega)) qax (qu8 br2 (by rw [qaa br1, qv, List.length_replicate])) (Nat.le_refl _)) rfl ?_;refine st_r rfl rfl (qlu rfl qw3 rfl (qy1 (List.drop (Int.toNat r2) r1) (by first | omega | (simp only [List.length_drop]; omega))) (by decide) (qlv fun _ => qlw (qnk)) (qqa ((qaa br1).trans ((qv _ _).trans List.length_replicate)) rfl rfl (qu8 br2 (by rw [qaa br1, qv, List.length_replicate])) qi4)) rfl ?_;refine st rfl rfl (qc rfl rfl) rfl ?_;refine qe ?_
  have hdl : (List.drop (Int.toNat r2) r1).length ≤ 12 := by rw [List.length_drop]; omega
  refine qd ?_;refine qb [.w] ?_;refine st_w rfl rfl (xf 6 4 1 rfl rfl rfl) rfl ?_;refine qe ?_;refine qd ?_;refine qd ?_;refine qb [.p, .p, .p] ?_;refine st rfl rfl (qa rfl rfl) rfl ?_;refine st rfl rfl (qx (f := cInt) (l := List.drop (Int.toNat r2) r1) rfl Tryz.underlying34 rfl) rfl ?_;refine st rfl rfl (qa rfl rfl) rfl ?_;refine qe ?_;refine qt ?_;refine zc (γ := Nat × (List Int) × (List Bool)) (fun g => ([(1, .g (G.ref [G.sl 3 (List.map S4069.c a0.program.Classes), G.int a0.program.Pool, G.int a0.program.Of, G.int a0.program.For, G.sl 18 (List.map S4026.c a0.claims), G.sl 1 (List.map cInt a0.lots)])), (3, .osl 14 1 0 (List.length a0.claims)), (4, .g (G.int r2)), (5, .g (G.sl 1 (List.map cInt (List.drop (Int.toNat r2) r1)))), (6, .osl 6 1 0 (List.length g.2.2)), (34, .g (G.sl 1 (List.map cInt (List.drop (Int.toNat r2) r1)))), (35, .g (G.int (List.length (List.drop (Int.toNat r2) r1) : Int))), (36, .g (G.int ((g.1 : Nat) : Int)))], [(6, .arr 4 1 (List.map cBool g.2.2)), (14, .arr 3 1 (List.map cInt r1))])) (fun g => g.2.2.length ≤ g.1 ∧ g.1 ≤ (List.drop (Int.toNat r2) r1).length ∧ (List.drop (Int.toNat r2) r1).drop g.1 = g.2.1 ∧ s4025_l1 a0 r1 r2 g.2.1 g.1 g.2.2 = some R) (fun g => List.length g.2.1) ⟨rfl, (0, (List.drop (Int.toNat r2) r1), []), ⟨rfl, rfl, rfl, rfl, rfl, rfl, rfl, rfl, trivial⟩, ⟨rfl, rfl, trivial⟩, rfl, ⟨(by first | (simp; done) | (simp; omega)), (by first | (simp; done) | (simp; omega)), rfl, (by exact hR)⟩, trivial⟩ ?_
  ·rintro ⟨k5, t7, x3⟩ ⟨iv1_0, iv1_1, hd, hR⟩;replace hd : (List.drop (Int.toNat r2) r1).drop k5 = t7 := hd;replace hR : s4025_l1 a0 r1 r2 t7 k5 x3 = some R := hR;replace iv1_0 : x3.length ≤ k5 := iv1_0;replace iv1_1 : k5 ≤ (List.drop (Int.toNat r2) r1).length := iv1_1;refine qd ?_;refine qb [.p] ?_;refine st rfl rfl (zi rfl rfl rfl) rfl ?_;refine qe ?_;refine zl (f := cInt) (l := List.drop (Int.toNat r2) r1) 5 rfl fun hlz1 => ?_;refine qd ?_;refine qp _ rfl (fun h2 => ?_) (fun h2 => ?_)
   ·replace h2 : (decide (((k5 : Nat) : Int) < (List.length (List.drop (Int.toNat r2) r1) : Int))) = true := h2;obtain ⟨y6, t7, rfl, hx1, hd⟩ := zp hd (decT h2);replace h2 := decT h2;rw [s4025_l1] at hR;(try dsimp only at hR);refine qq ?_;refine qd ?_;refine qt ?_;refine qd ?_;refine qb [.p, .p, .p] ?_;refine st rfl rfl (zt (f := cInt) (l := List.drop (Int.toNat r2) r1) (a := y6) rfl Tryz.underlying34 ty3 rfl rfl (Int.natCast_nonneg _) hx1) rfl ?_;refine st rfl rfl (qj rfl ty3 rfl) rfl ?_;refine st rfl rfl (qc rfl rfl) rfl ?_;refine qe ?_;obtain ⟨y17, by17, hR⟩ := qm hR;refine qb [.p, .p, .p, .p, .p, .p, .p, .p, .k, .p] ?_;refine st rfl rfl (q9 rfl rfl) rfl ?_;refine st rfl rfl (qf rfl qar rfl) rfl ?_;refine st rfl rfl (qj rfl w6 rfl) rfl ?_;refine st rfl rfl (qa rfl rfl) rfl ?_;refine st rfl rfl (zt (f := S4026.c) (l := a0.claims) (a := y17) rfl Tryz.underlying31 jf rfl rfl (jn by17) (zd by17)) rfl ?_;refine st rfl rfl (qf rfl qjs rfl) rfl ?_;refine st rfl rfl (qj rfl ty4 rfl) rfl ?_;refine st rfl rfl (qo rfl Tryz.underlying98 ty4 z4 rfl (qr rfl jg) rfl (by simp []) (by decide)) rfl ?_;refine st_k rfl rfl (vj (f := cBool) (out := x3) (new := [y17.Newcomer]) rfl qux rfl rfl (xx rfl (wh (by decide) (by simp []))) (qe3 rfl) (by simp; omega)) rfl ?_;refine st rfl rfl (zq rfl rfl) rfl ?_;refine qe ?_;refine qb [.p, .p] ?_;refine st rfl rfl (z0 rfl rfl rfl (by unfold I64; omega)) rfl ?_;refine st rfl rfl (qa rfl rfl) rfl ?_;refine qe ?_;exact ⟨rfl, (k5 + 1, t7, x3 ++ [y17.Newcomer]), ⟨rfl, rfl, rfl, rfl, rfl, rfl, rfl, rfl, trivial⟩, ⟨rfl, rfl, trivial⟩, rfl, ⟨(by first | omega | (dsimp only; omega) | (simp at *; omega)), (by first | omega | (dsimp only; omega) | (simp at *; omega)), hd, hR⟩, by simp⟩
   ·replace h2 : (decide (((k5 : Nat) : Int) < (List.length (List.drop (Int.toNat r2) r1) : Int))) = false := h2;obtain rfl := je hd (decF h2);rw [s4025_l1] at hR;refine zy ?_;refine qd ?_;refine qd ?_;refine qby (l := [(1, .g (G.ref [G.sl 3 (List.map S4069.c a0.program.Classes), G.int a0.program.Pool, G.int a0.program.Of, G.int a0.program.For, G.sl 18 (List.map S4026.c a0.claims), G.sl 1 (List.map cInt a0.lots)])), (3, .osl 14 1 0 (List.length a0.claims)), (4, .g (G.int r2)), (5, .g (G.sl 1 (List.map cInt (List.drop (Int.toNat r2) r1)))), (6, .g (G.sl 1 (List.map cBool x3)))]) (m := [(14, .arr 3 1 (List.map cInt r1))]) 6 rfl ⟨.inl ⟨rfl, rfl⟩, .inl ⟨rfl, rfl⟩, .inl ⟨rfl, rfl⟩, .inl ⟨rfl, rfl⟩, .inr (qi5 rfl), trivial⟩ ⟨rfl, trivial⟩ rfl rfl ?_;obtain ⟨r8, br8, hR⟩ := qm hR;refine qb [.p, .p, .p, .p, .p, .p, .p, .p, .p, .p] ?_;refine st rfl rfl (qf rfl qbm rfl) rfl ?_;refine st rfl rfl (qf rfl qf4 rfl) rfl ?_;refine st rfl rfl (qj rfl ty3 rfl) rfl ?_;refine st rfl rfl (qf rfl qbm rfl) rfl ?_;refine st rfl rfl (qf rfl qjv rfl) rfl ?_;refine st rfl rfl (qj rfl ty3 rfl) rfl ?_;refine st rfl rfl (qa rfl rfl) rfl ?_;refine st rfl rfl (qh rfl qxn rfl (qu6 a0.program.Of a0.program.For x3 br8) (qg rfl (qg rfl (qg rfl ql)))) rfl ?_;refine st rfl rfl (qx (f := cInt) (l := r8) rfl Tryz.underlying34 rfl) rfl ?_;refine st rfl rfl (qa rfl rfl) rfl ?_;refine qe ?_;refine qt ?_;refine zc (γ := Nat × (List Int) × (List Int)) (fun g => ([(3, .osl 14 1 0 (List.length a0.claims)), (4, .g (G.int r2)), (5, .g (G.sl 1 (List.map cInt (List.drop (Int.toNat r2) r1)))), (57, .g (G.sl 1 (List.map cInt r8))), (58, .g (G.int (List.length r8 : Int))), (59, .g (G.int ((g.1 : Nat) : Int)))], [(14, .arr 3 1 (List.map cInt g.2.2))])) (fun g => List.length g.2.2 = List.length a0.claims ∧ r8.drop g.1 = g.2.1 ∧ s4025_l2 r1 r2 g.2.1 g.1 g.2.2 = some R) (fun g => List.length g.2.1) ⟨rfl, (0, r8, r1), ⟨rfl, rfl, rfl, rfl, rfl, rfl, trivial⟩, ⟨rfl, trivial⟩, rfl, ⟨((qaa br1).trans ((qv _ _).trans List.length_replicate)), rfl, (by exact hR)⟩, trivial⟩ ?_
    ·rintro ⟨k12, t14, x10⟩ ⟨ln11, hd, hR⟩;replace hd : r8.drop k12 = t14 := hd;replace hR : s4025_l2 r1 r2 t14 k12 x10 = some R := hR;replace ln11 : List.length x10 = List.length a0.claims := ln11;refine qd ?_;refine qb [.p] ?_;refine st rfl rfl (zi rfl rfl rfl) rfl ?_;refine qe ?_;refine zl (f := cInt) (l := r8) 57 rfl fun hlz2 => ?_;refine qd ?_;refine qp _ rfl (fun h4 => ?_) (fun h4 => ?_)
     ·replace h4 : (decide (((k12 : Nat) : Int) < (List.length r8 : Int))) = true := h4;obtain ⟨y13, t14, rfl, hx2, hd⟩ := zp hd (decT h4);replace h4 := decT h4;rw [s4025_l2] at hR;(try dsimp only at hR);refine qq ?_;refine qd ?_;refine qt ?_;refine qd ?_;refine qb [.p, .p, .p, .p, .p] ?_;refine st rfl rfl (qa rfl rfl) rfl ?_;refine st rfl rfl (zt (f := cInt) (l := r8) (a := y13) rfl Tryz.underlying34 ty3 rfl rfl (Int.natCast_nonneg _) hx2) rfl ?_;refine st rfl rfl (qj rfl ty3 rfl) rfl ?_;refine st rfl rfl (qc rfl rfl) rfl ?_;refine st rfl rfl (qc rfl rfl) rfl ?_;refine qe ?_;obtain ⟨y15, by15, hR⟩ := qm hR;obtain ⟨y16, by16, hR⟩ := qm hR;refine qb [.p, .p, .p, .p, .p, .p, .p, .p, .p, .w] ?_;refine st rfl rfl (q9 rfl rfl) rfl ?_;refine st rfl rfl (qa rfl rfl) rfl ?_;refine st rfl rfl (qa rfl rfl) rfl ?_;refine st rfl rfl (wt rfl rfl rfl) rfl ?_;refine st rfl rfl (qa rfl rfl) rfl ?_;refine st rfl rfl (qa rfl rfl) rfl ?_;refine st rfl rfl (zt (f := cInt) (l := List.drop (Int.toNat r2) r1) (a := y15) rfl Tryz.underlying34 ty3 rfl rfl (jn by15) (zd by15)) rfl ?_;refine st rfl rfl (qj rfl ty3 rfl) rfl ?_;refine st rfl rfl (vh rfl Tryz.underlying34 ty3 rfl rfl (jn by16) (Nat.lt_of_lt_of_eq (ku (zd by16)) ln11)) rfl ?_;refine kc rfl rfl (xy (f := cInt) (l := x10) (a' := y15) rfl ty3 rfl rfl rfl (Nat.lt_of_lt_of_eq (Nat.lt_of_lt_of_eq (ku (zd by16)) ln11) (Eq.symm ln11)) rfl (fun _ => rfl)) ?_;refine qe ?_;refine qb [.p, .p] ?_;refine st rfl rfl (z0 rfl rfl rfl (by unfold I64; omega)) rfl ?_;refine st rfl rfl (qa rfl rfl) rfl ?_;refine qe ?_;exact ⟨rfl, (k12 + 1, t14, List.set x10 (Int.toNat (IntKind.i64.wrap (r2 + ((k12 : Nat) : Int)))) y15), ⟨rfl, rfl, rfl, rfl, rfl, rfl, trivial⟩, ⟨rfl, trivial⟩, rfl, ⟨((List.length_set ..).trans ln11), hd, hR⟩, by simp⟩
     ·replace h4 : (decide (((k12 : Nat) : Int) < (List.length r8 : Int))) = false := h4;obtain rfl := je hd (decF h4);rw [s4025_l2] at hR;refine zy ?_;refine qd ?_;refine qb [.p, .p] ?_;refine st rfl rfl (q9 rfl rfl) rfl ?_;refine st rfl rfl (zq rfl rfl) rfl ?_;refine qe ?_;refine qn ?_;obtain rfl := Option.some.inj hR;exact qy rfl (qbx ln11 rfl rfl)
def s4008 (a0 : S4040) (a1 : Int) (a2 : List S4026) : Option ((List Int) × Int) :=
 (bif decide ((s4023 a0 a1 a2) ≠ 0) then some ([], (s4023 a0 a1 a2)) else bindO (s4024 a0 a1 a2) fun r1 => bindO (s4025 r1) fun r2 => some (r2, 0))
theorem qso (a0 : S4040) (a1 : Int) (a2 : List S4026) {R : (List Int) × Int}  (hb : a2.length ≤ 12) (hR : s4008 a0 a1 a2 = some R) : Con (EG glT) 8 [G.agg [G.sl 3 (List.map S4069.c a0.Classes), G.int a0.Pool, G.int a0.Of, G.int a0.For], G.int a1, G.sl 18 (List.map S4026.c a2)] (G.tup [G.sl 1 (List.map cInt R.1), G.int R.2]) := by
 unfold s4008 at hR;refine qk Tryz.func8 rfl rfl fun w0 M0 => ?_;refine zl (f := S4026.c) (l := a2) 2 rfl fun hla2 => ?_;refine qd ?_;refine qb [.p, .p, .p] ?_;refine st rfl rfl (zj rfl rfl) rfl ?_;refine st rfl rfl (qc rfl rfl) rfl ?_;refine st rfl rfl (qc rfl rfl) rfl ?_;refine qe ?_;refine qd ?_;refine qd ?_;refine qb [.p, .p, .p, .p, .p] ?_;refine st rfl rfl (qw rfl wz rfl rfl rfl) rfl ?_;refine st rfl rfl (qa rfl rfl) rfl ?_;refine st rfl rfl (qa rfl rfl) rfl ?_;refine st rfl rfl (qh rfl qxa rfl (qy2 a0 a1 a2) (qg rfl (qg rfl (qg rfl ql)))) rfl ?_;refine st rfl rfl (qc rfl rfl) rfl ?_;refine qe ?_;refine qd ?_;refine qb [.p, .p] ?_;refine st rfl rfl (qa rfl rfl) rfl ?_;refine st rfl rfl (zo rfl rfl rfl) rfl ?_;refine qe ?_;refine qp _ rfl (fun h1 => ?_) (fun h1 => ?_)
 ·replace h1 : (decide ((s4023 a0 a1 a2) ≠ 0)) = true := h1;replace hR := jc hR h1;(try simp only [Bool.or_eq_true, Bool.and_eq_true, Bool.or_eq_false_iff, Bool.and_eq_false_iff, Bool.not_eq_true', Bool.not_eq_false', decide_eq_true_eq, decide_eq_false_iff_not] at h1);refine qd ?_;refine qb [.p, .p, .p] ?_;refine st rfl rfl (qa rfl rfl) rfl ?_;refine st rfl rfl (qc rfl rfl) rfl ?_;refine st rfl rfl (qc rfl rfl) rfl ?_;refine qe ?_;refine qn ?_;obtain rfl := Option.some.inj hR;exact resN rfl ⟨qgj rfl (qkb _), rv_g rfl, trivial⟩ (by simp)
 ·replace h1 : (decide ((s4023 a0 a1 a2) ≠ 0)) = false := h1;replace hR := jd hR h1;(try simp only [Bool.or_eq_true, Bool.and_eq_true, Bool.or_eq_false_iff, Bool.and_eq_false_iff, Bool.not_eq_true', Bool.not_eq_false', decide_eq_true_eq, decide_eq_false_iff_not] at h1);refine qq ?_;refine qd ?_;obtain ⟨r1, br1, hR⟩ := qm hR;obtain ⟨r2, br2, hR⟩ := qm hR
  have hcl : r1.claims.length ≤ 12 := by rw [qni br1]; exact hb
  refine qb [.p, .p, .p, .p, .p, .p, .p] ?_;refine st rfl rfl (qw rfl wz rfl rfl rfl) rfl ?_;refine st rfl rfl (qa rfl rfl) rfl ?_;refine st rfl rfl (qa rfl rfl) rfl ?_;refine st rfl rfl (qh rfl qxb rfl (qy3 a0 a1 a2 (by first | assumption | omega | (simp [qv]; done) | (simp [qv]; omega)) br1) (qg rfl (qg rfl (qg rfl ql)))) rfl ?_;refine st rfl rfl (qh rfl qxc rfl (qyy r1 (by first | assumption | omega | (simp [qv]; done) | (simp [qv]; omega)) br2) (qg rfl ql)) rfl ?_;refine st rfl rfl (qc rfl rfl) rfl ?_;refine st rfl rfl (qc rfl rfl) rfl ?_;refine qe ?_;refine qn ?_;obtain rfl := Option.some.inj hR;exact resN rfl ⟨rv_g rfl, rv_g rfl, trivial⟩ (by simp)
end Go.Sim
set_option maxRecDepth 10000
namespace Go.Sim
open Go.Proofs
def s4016 (a0 : S4026) (a1 : ByteArray) : Option (Int × Int) :=
 (bif decide ((s4019 [(s4034 a0), (s4028 (!(mhas s4033 a1)) 10)]) ≠ 0) then some (0, (s4019 [(s4034 a0), (s4028 (!(mhas s4033 a1)) 10)])) else bindO (kcO ((mgetD s4033 a1 (S4076.mk ByteArray.empty 0)).of) a0) fun r1 => some (r1, 0))
theorem qy4 {g : List (Nat × List Value)} (a0 : S4026) (a1 : ByteArray) {R : Int × Int}   (hR : s4016 a0 a1 = some R) : Con (EG g) 16 [G.agg [G.str a0.Request.Name, G.str a0.Request.Carrier, G.str a0.Request.Kind, G.str a0.Request.Terminal, G.str a0.Request.Partner, G.str a0.Request.Link, G.int a0.Request.Period.fFrom, G.int a0.Request.Period.fTo, G.int a0.Request.Period.Days, G.int a0.Request.Minute, G.int a0.Request.Seats, G.int a0.Request.Size, G.int a0.Request.Noise, G.bool a0.Historic, G.bool a0.Retimed, G.bool a0.Newcomer, G.bool a0.Yearround, G.int a0.Distance], G.str a1] (G.tup [G.int R.1, G.int R.2]) := by
 unfold s4016 at hR;refine qk Tryz.func16 rfl rfl fun w0 M0 => ?_;refine qd ?_;refine qb [.p, .p, .p] ?_;refine st rfl rfl (zj rfl rfl) rfl ?_;refine st rfl rfl (qc rfl rfl) rfl ?_;refine st rfl rfl (qc rfl rfl) rfl ?_;refine qe ?_;refine qd ?_;refine qb [.p, .p, .p, .p, .p, .p, .w, .w, .p] ?_;refine st rfl rfl (qh rfl qr9 rfl (qsp ) ql) rfl ?_;refine st rfl rfl (qa rfl rfl) rfl ?_;refine st rfl rfl (qhk (kf := Value.string) (vf := (fun (v : S4076) => G.agg [G.str v.name, kfG v.of])) (m := s4033) (k := a1) (z := (S4076.mk ByteArray.empty 0)) rfl Tryz.underlying79 Tryz.underlying9 qm8 (fun _ _ => ⟨_, rfl, ⟨⟨rfl, rfl⟩, ⟨⟨rfl, rfl⟩, trivial⟩⟩⟩) rfl rfl) rfl ?_;refine st rfl rfl (qa rfl rfl) rfl ?_;refine st rfl rfl (za rfl rfl rfl) rfl ?_;refine st rfl rfl (za rfl rfl rfl) rfl ?_;refine st_w rfl rfl (zw 6 rfl qa8 rfl rfl) rfl ?_;refine kc rfl rfl (q8 (tv := .g (G.agg [G.str ((mgetD s4033 a1 (S4076.mk ByteArray.empty 0)).name), kfG ((mgetD s4033 a1 (S4076.mk ByteArray.empty 0)).of)])) rfl qa4 rfl rfl rfl rfl rfl) ?_;refine st rfl rfl (qc rfl rfl) rfl ?_;refine qe ?_;refine qd ?_;refine qd ?_;refine qb [.p, .p, .p, .p, .p, .p, .p, .p] ?_;refine st rfl rfl (qw rfl jf rfl rfl rfl) rfl ?_;refine st rfl rfl (qh rfl qur rfl (qva a0) (qg rfl ql)) rfl ?_;refine st rfl rfl (qa rfl rfl) rfl ?_;refine st rfl rfl (jz rfl rfl) rfl ?_;refine st rfl rfl (qh rfl qa7 rfl (qba (!(mhas s4033 a1)) 10) (qg rfl (qg rfl ql))) rfl ?_;refine st rfl rfl (qo rfl Tryz.underlying83 ty37 z37 rfl (qr rfl (qr rfl jg)) rfl (by simp []) (by decide)) rfl ?_;refine st rfl rfl (qh rfl qbl rfl (qbz [(s4034 a0), (s4028 (!(mhas s4033 a1)) 10)]) (qg rfl ql)) rfl ?_;refine st rfl rfl (qc rfl rfl) rfl ?_;refine qe ?_;refine qd ?_;refine qb [.p, .p] ?_;refine st rfl rfl (qa rfl rfl) rfl ?_;refine st rfl rfl (zo rfl rfl rfl) rfl ?_;refine qe ?_;refine qp _ rfl (fun h1 => ?_) (fun h1 => ?_)
 ·replace h1 : (decide ((s4019 [(s4034 a0), (s4028 (!(mhas s4033 a1)) 10)]) ≠ 0)) = true := h1;replace hR := jc hR h1;(try simp only [Bool.or_eq_true, Bool.and_eq_true, Bool.or_eq_false_iff, Bool.and_eq_false_iff, Bool.not_eq_true', Bool.not_eq_false', decide_eq_true_eq, decide_eq_false_iff_not] at h1);refine qd ?_;refine qb [.p, .p, .p] ?_;refine st rfl rfl (qa rfl rfl) rfl ?_;refine st rfl rfl (qc rfl rfl) rfl ?_;refine st rfl rfl (qc rfl rfl) rfl ?_;refine qe ?_;refine qn ?_;obtain rfl := Option.some.inj hR;exact resN rfl ⟨rv_g rfl, rv_g rfl, trivial⟩ (by simp)
 ·replace h1 : (decide ((s4019 [(s4034 a0), (s4028 (!(mhas s4033 a1)) 10)]) ≠ 0)) = false := h1;replace hR := jd hR h1;(try simp only [Bool.or_eq_true, Bool.and_eq_true, Bool.or_eq_false_iff, Bool.and_eq_false_iff, Bool.not_eq_true', Bool.not_eq_false', decide_eq_true_eq, decide_eq_false_iff_not] at h1);refine qq ?_;refine qd ?_;obtain ⟨r1, br1, hR⟩ := qm hR;refine qb [.p, .r, .p, .p, .p, .p] ?_;refine st rfl rfl (zf rfl qdn rfl) rfl ?_;refine st_r rfl rfl (jy rfl qm7 rfl rfl rfl) rfl ?_;refine st rfl rfl (qw rfl jf rfl rfl rfl) rfl ?_;refine st rfl rfl (qbt (fun h_ => h_) (fun h_ => h_) rfl br1 rfl (qg rfl ql)) rfl ?_;refine st rfl rfl (qc rfl rfl) rfl ?_;refine st rfl rfl (qc rfl rfl) rfl ?_;refine qe ?_;refine qn ?_;obtain rfl := Option.some.inj hR;exact resN rfl ⟨rv_g rfl, rv_g rfl, trivial⟩ (by simp)
def s4006  : Option Bool :=
 bindO (s4016 (S4026.mk (S115.mk (⟨#[97]⟩) (⟨#[97, 98]⟩) (⟨#[65]⟩) ByteArray.empty (⟨#[102, 97, 114]⟩) ByteArray.empty (S45.mk 2 8 96) 60 0 1 0) false false false false 0) (⟨#[100, 97, 121, 115]⟩)) fun r1 => bindO (s4008 s4009 3 [(S4026.mk (S115.mk (⟨#[97]⟩) (⟨#[97, 98]⟩) (⟨#[65]⟩) ByteArray.empty (⟨#[102, 97, 114]⟩) ByteArray.empty (S45.mk 2 8 96) 60 0 1 0) false false false false 0), (S4026.mk (S115.mk (⟨#[98]⟩) (⟨#[97, 98]⟩) (⟨#[65]⟩) ByteArray.empty (⟨#[102, 97, 114]⟩) ByteArray.empty (S45.mk 2 8 127) 60 0 1 0) false false false false 0)]) fun r2 => bindO (bif ((decide (IntKind.i64.wrap ((IntKind.i64.wrap (r1.2 + r2.2)) + ((s4017 (S45.mk 2 8 96)).2)) = 0)) && (decide (r1.1 = 2))) && (decide ((s4017 (S45.mk 2 8 96)).1 = 2)) then s83 r2.1 [1, 0] else some default) fun r3 => some ((((decide (IntKind.i64.wrap ((IntKind.i64.wrap (r1.2 + r2.2)) + ((s4017 (S45.mk 2 8 96)).2)) = 0)) && (decide (r1.1 = 2))) && (decide ((s4017 (S45.mk 2 8 96)).1 = 2))) && r3)
theorem qvb  {R : Bool}   (hR : s4006  = some R) : Con (EG glT) 6 [] (G.bool R) := by
 unfold s4006 at hR;refine qk Tryz.func6 rfl rfl fun w0 M0 => ?_;refine qd ?_;refine qb [.p] ?_;refine st rfl rfl (qc rfl rfl) rfl ?_;refine qe ?_;refine qd ?_;refine qb [.p, .p, .p, .w, .w] ?_;refine st rfl rfl (zr rfl z46 rfl pl46 (qz rfl (qz rfl (qz rfl ko))) rfl) rfl ?_;refine st rfl rfl (zr rfl z116 rfl qyn (qz rfl (qz rfl (qz rfl (qz rfl (qz rfl (qz rfl (qz rfl ko))))))) rfl) rfl ?_;refine st rfl rfl (zr rfl qd9 rfl quy (qz rfl ko) rfl) rfl ?_;refine st_w rfl rfl (zw 1 rfl qd9 rfl rfl) rfl ?_;refine kc rfl rfl (q8 (tv := .g (G.agg [G.str (⟨#[97]⟩), G.str (⟨#[97, 98]⟩), G.str (⟨#[65]⟩), G.str ByteArray.empty, G.str (⟨#[102, 97, 114]⟩), G.str ByteArray.empty, G.int 2, G.int 8, G.int 96, G.int 60, G.int 0, G.int 1, G.int 0, G.bool false, G.bool false, G.bool false, G.bool false, G.int 0])) rfl jf rfl rfl rfl rfl rfl) ?_;refine qe ?_;refine qd ?_;refine qb [.r, .w, .w] ?_;refine st_r rfl rfl (zk rfl jf rfl rfl rfl rfl) rfl ?_;refine st_w rfl rfl (zw 2 rfl qd9 rfl rfl) rfl ?_;refine kc rfl rfl (q8 (tv := .g (G.agg [G.str (⟨#[97]⟩), G.str (⟨#[97, 98]⟩), G.str (⟨#[65]⟩), G.str ByteArray.empty, G.str (⟨#[102, 97, 114]⟩), G.str ByteArray.empty, G.int 2, G.int 8, G.int 96, G.int 60, G.int 0, G.int 1, G.int 0, G.bool false, G.bool false, G.bool false, G.bool false, G.int 0])) rfl jf rfl rfl rfl rfl rfl) ?_;refine qe ?_;refine qd ?_;refine qb [.p, .p, .w, .p, .p, .p, .w] ?_;refine st rfl rfl (zf rfl js rfl) rfl ?_;refine st rfl rfl (zf rfl vw rfl) rfl ?_;refine kc rfl rfl (q8 (tv := .g (G.str (⟨#[98]⟩))) rfl ty9 rfl rfl rfl rfl rfl) ?_;refine st rfl rfl (zf rfl js rfl) rfl ?_;refine st rfl rfl (zf rfl qd7 rfl) rfl ?_;refine st rfl rfl (zf rfl qm0 rfl) rfl ?_;refine kc rfl rfl (q8 (tv := .g (G.int 127)) rfl ty3 rfl rfl rfl rfl rfl) ?_;refine qe ?_;refine qd ?_;obtain ⟨r1, br1, hR⟩ := qm hR;refine qb [.r, .p, .p, .p, .p, .p, .p] ?_;refine st_r rfl rfl (zk rfl jf rfl rfl rfl rfl) rfl ?_;refine st rfl rfl (qh rfl qw9 rfl (qy4 (S4026.mk (S115.mk (⟨#[97]⟩) (⟨#[97, 98]⟩) (⟨#[65]⟩) ByteArray.empty (⟨#[102, 97, 114]⟩) ByteArray.empty (S45.mk 2 8 96) 60 0 1 0) false false false false 0) (⟨#[100, 97, 121, 115]⟩) br1) (qg rfl (qg rfl ql))) rfl ?_;refine st rfl rfl (qa rfl rfl) rfl ?_;refine st rfl rfl (za rfl rfl rfl) rfl ?_;refine st rfl rfl (za rfl rfl rfl) rfl ?_;refine st rfl rfl (qc rfl rfl) rfl ?_;refine st rfl rfl (qc rfl rfl) rfl ?_;refine qe ?_;refine qd ?_;obtain ⟨r2, br2, hR⟩ := qm hR;refine zz [.p, .r, .r, .p, .p, .p, .p, .p, .p, .p] (by kernel_rfl) ?_;refine st rfl rfl (qh rfl qr5 rfl (qsq ) ql) rfl ?_;refine st_r rfl rfl (zk rfl jf rfl rfl rfl rfl) rfl ?_;refine st_r rfl rfl (zk rfl jf rfl rfl rfl rfl) rfl ?_;refine st rfl rfl (qo rfl Tryz.underlying31 jf qd9 rfl (qr rfl (qr rfl jg)) rfl (by exact lens rfl) (by decide)) rfl ?_;refine st rfl rfl (qh rfl qr4 rfl (qso s4009 3 [(S4026.mk (S115.mk (⟨#[97]⟩) (⟨#[97, 98]⟩) (⟨#[65]⟩) ByteArray.empty (⟨#[102, 97, 114]⟩) ByteArray.empty (S45.mk 2 8 96) 60 0 1 0) false false false false 0), (S4026.mk (S115.mk (⟨#[98]⟩) (⟨#[97, 98]⟩) (⟨#[65]⟩) ByteArray.empty (⟨#[102, 97, 114]⟩) ByteArray.empty (S45.mk 2 8 127) 60 0 1 0) false false false false 0)] (by first | assumption | omega | (simp [qv]; done) | (simp [qv]; omega)) br2) (qg rfl (qg rfl (qg rfl ql)))) rfl ?_;refine st rfl rfl (qa rfl rfl) rfl ?_;refine st rfl rfl (za rfl rfl rfl) rfl ?_;refine st rfl rfl (za rfl rfl rfl) rfl ?_;refine st rfl rfl (qc rfl rfl) rfl ?_;refine st rfl rfl (qc rfl rfl) rfl ?_;refine qe ?_;refine qd ?_;refine qb [.p, .p, .r, .p, .p, .p, .p, .p, .p] ?_;refine st rfl rfl (zf rfl js rfl) rfl ?_;refine st rfl rfl (zf rfl qd7 rfl) rfl ?_;refine st_r rfl rfl (zk rfl ty46 rfl rfl rfl rfl) rfl ?_;refine st rfl rfl (qh rfl qup rfl (qvc (S45.mk 2 8 96)) (qg rfl ql)) rfl ?_;refine st rfl rfl (qa rfl rfl) rfl ?_;refine st rfl rfl (za rfl rfl rfl) rfl ?_;refine st rfl rfl (za rfl rfl rfl) rfl ?_;refine st rfl rfl (qc rfl rfl) rfl ?_;refine st rfl rfl (qc rfl rfl) rfl ?_;refine qe ?_;refine qd ?_;obtain ⟨r3, br3, hR⟩ := qm hR;refine qb [.p, .p, .p, .p, .p, .p, .p, .p, .p, .p, .p, .p, .p, .p, .p, .p, .p, .p, .p, .p] ?_;refine st rfl rfl (qa rfl rfl) rfl ?_;refine st rfl rfl (qa rfl rfl) rfl ?_;refine st rfl rfl (wt rfl rfl rfl) rfl ?_;refine st rfl rfl (qa rfl rfl) rfl ?_;refine st rfl rfl (wt rfl rfl rfl) rfl ?_;refine st rfl rfl (vg rfl rfl rfl) rfl ?_;refine st rfl rfl (qa rfl rfl) rfl ?_;refine st_g rfl rfl rfl (qi _ _) (fun h => qa rfl rfl) rfl ?_;refine st_g rfl rfl rfl (qi _ _) (fun h => vg rfl (gd h rfl) rfl) rfl ?_;refine st rfl rfl (jp rfl rfl rfl rfl) rfl ?_;refine st rfl rfl (qa rfl rfl) rfl ?_;refine st_g rfl rfl rfl (qi _ _) (fun h => qa rfl rfl) rfl ?_;refine st_g rfl rfl rfl (qi _ _) (fun h => vg rfl (gd h rfl) rfl) rfl ?_;refine st rfl rfl (jp rfl rfl rfl rfl) rfl ?_;refine st rfl rfl (qa rfl rfl) rfl ?_;refine st_g rfl rfl rfl (qi _ _) (fun h => qa rfl rfl) rfl ?_;refine st_g rfl rfl rfl (qi _ _) (fun h => qo rfl Tryz.underlying34 ty3 z3 rfl (qr rfl (qr rfl jg)) rfl (by simp []) (by decide)) rfl ?_;refine st_g rfl rfl rfl (qi _ _) (fun h => qh rfl K83 rfl (c83 r2.1 [1, 0] (qab br3 h)) (qg (gd h rfl) (qg (gd h rfl) ql))) rfl ?_;refine st rfl rfl (jp rfl rfl rfl rfl) rfl ?_;refine st rfl rfl (qc rfl rfl) rfl ?_;refine qe ?_;refine qn ?_;obtain rfl := Option.some.inj hR;exact qy rfl (rv_g rfl)
theorem qy5 (a : Int) : -4 ≤ IntKind.i64.wrap (1 + Int.tmod (IntKind.i64.wrap a) 6) ∧ IntKind.i64.wrap (1 + Int.tmod (IntKind.i64.wrap a) 6) ≤ 6 := by
 generalize IntKind.i64.wrap a = x;have h1 := Int.tmod_lt_of_pos x (show (0 : Int) < 6 by decide);have h2 : -6 < Int.tmod x 6 := Int.lt_tmod_of_pos x (by decide);rw [wrap_i64 (by unfold I64; omega)]
 omega
theorem qq7 (r : (List Int) × Int) : ∀ (l : List Int) (k : Nat) (x R : List Int), s4022_l1 r l k x = some R → R.length = x.length
 | [], k, x, R, h => by
  rw [s4022_l1] at h;rw [← Option.some.inj h]
 | y :: t, k, x, R, h => by
  rw [s4022_l1] at h;obtain ⟨a, _, h⟩ := qm h;obtain ⟨b, _, h⟩ := qm h;rw [qq7 r t _ _ R h, List.length_set]
theorem qqb {k : Int} {l : List S4026} {r : List Int} (h : s4022 k l = some r) : r.length = l.length := by
 unfold s4022 at h;obtain ⟨a, _, h⟩ := qm h;obtain ⟨b, _, h⟩ := qm h;rw [qq7 _ _ _ _ _ h, List.length_replicate]
theorem qsr {k : Int} {l : List S4026} {r : (List Int) × Int} (h : s4007 k l = some r) : r.1.length ≤ l.length := by
 unfold s4007 at h;rw [cond_eq_ite] at h
 split at h
 ·rw [← Option.some.inj h]; exact Nat.zero_le _
 ·obtain ⟨a, h1, h⟩ := qm h;rw [← Option.some.inj h];exact Nat.le_of_eq (qqb h1)
theorem qnl {s : ByteArray} {i : Nat} (h : (s.get! i).toNat < 128) : Utf8.decode s i = ((s.get! i).toNat, 1) := by
 unfold Utf8.decode
 simp [h]
theorem qnm {s : ByteArray} {i : Nat} (h : 128 ≤ (s.get! i).toNat) : 128 ≤ (Utf8.decode s i).1 := by
 unfold Utf8.decode;simp only [Nat.add_zero];rw [if_neg (by omega)]
 repeat' split
 all_goals first | assumption | (simp [Utf8.runeError]; done) | (rename_i h2; simp only [Bool.and_eq_true, decide_eq_true_eq] at h2; have h3 := h2.1; dsimp only; omega)
theorem qlx {s : ByteArray} {i : Nat} (h : i < s.data.toList.length) : s.get! i = s.data.toList[i] := by
 have h' : i < s.data.size := by simpa using h
 show s.data[i]! = _;rw [getElem!_pos s.data i h']
 simp
theorem qnn (s : ByteArray) : ∀ n pos, s.size ≤ pos + n → s147_l1 (runesF s n pos) = s91_l1 (s.data.toList.drop pos) pos := by
 intro n
 induction n with
 | zero =>
  intro pos h;rw [List.drop_eq_nil_of_le (by simpa using h)]; rfl
 | succ n ih =>
  intro pos h;unfold runesF
  split
  ·rename_i hp
   have hl : pos < s.data.toList.length := by simpa using hp
   rw [List.drop_eq_getElem_cons hl, s147_l1, s91_l1, ← qlx hl]
   rcases Nat.lt_or_ge (s.get! pos).toNat 128 with hb | hb
   ·rw [qnl hb, ih (pos + 1) (by omega)];have e1 : (decide (((pos : Nat) : Int) = 0)) = decide ((pos : Int) = 0) := rfl;dsimp only;rw [Bool.or_comm ((decide ((65 : Int) ≤ _)) && _)]
   ·have hb2 := qnm hb
    have c1 : (!(((decide ((65 : Int) ≤ ((Utf8.decode s pos).1 : Int))) && (decide (((Utf8.decode s pos).1 : Int) ≤ 90))) || ((decide ((97 : Int) ≤ ((Utf8.decode s pos).1 : Int))) && (decide (((Utf8.decode s pos).1 : Int) ≤ 122))))) = true := by
     simp; omega
    have c2 : (!(((decide ((97 : Int) ≤ ((s.get! pos).toNat : Int))) && (decide (((s.get! pos).toNat : Int) ≤ 122))) || ((decide ((65 : Int) ≤ ((s.get! pos).toNat : Int))) && (decide (((s.get! pos).toNat : Int) ≤ 90))))) = true := by
     simp; omega
    dsimp only;rw [c1, c2]
    have d1 : (decide (((Utf8.decode s pos).1 : Int) ≠ 95) && (decide (((Utf8.decode s pos).1 : Int) < 48) || decide (57 < ((Utf8.decode s pos).1 : Int)))) = true := by simp; omega
    have d2 : (decide (((s.get! pos).toNat : Int) ≠ 95) && (decide (((s.get! pos).toNat : Int) < 48) || decide (57 < ((s.get! pos).toNat : Int)))) = true := by simp; omega
    rw [d1, d2]; simp
  ·rename_i hp
   rw [List.drop_eq_nil_of_le (by simpa using hp)]; rfl
theorem qi6 (s : ByteArray) : s147 s = s91 s := by
 unfold s147 s91 runes;rw [qnn s _ 0 (by omega)]; rfl
end Go.Sim
set_option maxRecDepth 10000
namespace Go.Sim
theorem qb0 : ∀ (l : List Int) (k : Nat), s4019_l1 l k = 0 ↔ ∀ x ∈ l, x = 0
 | [], k => by simp [s4019_l1]
 | y :: t, k => by
  rw [s4019_l1]
  by_cases h : y = 0
  ·rw [decide_eq_false (by simpa using h), cond_false, qb0 t]; simp [h]
  ·rw [decide_eq_true h, cond_true]; simp [h]
theorem wj (l : List Int) : s4019 l = 0 ↔ ∀ x ∈ l, x = 0 := qb0 l 0
theorem qb1 : ∀ (l : List Int) (k : Nat), s4082_l1 l k = 0 ↔ ∀ x ∈ l, x = 0
 | [], k => by simp [s4082_l1]
 | y :: t, k => by
  rw [s4082_l1]
  by_cases h : y = 0
  ·rw [decide_eq_false (by simpa using h), cond_false, qb1 t]; simp [h]
  ·rw [decide_eq_true h, cond_true]; simp [h]
theorem qly (l : List Int) : s4082 l = 0 ↔ ∀ x ∈ l, x = 0 := qb1 l 0
theorem qek : ∀ (l : List Int) (k : Nat), s89_l1 l k = 0 ↔ ∀ x ∈ l, x = 0
 | [], k => by simp [s89_l1]
 | y :: t, k => by
  rw [s89_l1]
  by_cases h : y = 0
  ·rw [decide_eq_false (by simpa using h), cond_false, qek t]; simp [h]
  ·rw [decide_eq_true h, cond_true]; simp [h]
theorem qkc (l : List Int) : s89 l = 0 ↔ ∀ x ∈ l, x = 0 := qek l 0
theorem ww {a b c : Int} : s90 a b c = 0 ↔ b ≤ a ∧ a ≤ c := by
 unfold s90
 by_cases h1 : a < b <;> by_cases h2 : c < a <;> simp [h1, h2] <;> omega
theorem qay {a b c : Int} : s4087 a b c = 0 ↔ b ≤ a ∧ a ≤ c := by
 unfold s4087 s4085
 by_cases h1 : a < b <;> by_cases h2 : c < a <;> simp [h1, h2] <;> omega
theorem qaz {a b c : Int} : s4036 a b c = 0 ↔ b ≤ a ∧ a ≤ c := by
 unfold s4036 s4028
 by_cases h1 : a < b <;> by_cases h2 : c < a <;> simp [h1, h2] <;> omega
theorem wk {a b c : Int} : s155 a b c = 0 ↔ b ≤ a ∧ a ≤ c := by
 unfold s155 s154
 by_cases h1 : a < b <;> by_cases h2 : c < a <;> simp [h1, h2] <;> omega
theorem qvd {p : S45} (h : s40 p = 0) : s102 p = 0 := by
 unfold s40 at h;rw [cond_eq_ite] at h
 split at h
 ·simp at h
 rename_i h1
 simp only [Bool.or_eq_true, decide_eq_true_eq, not_or, Decidable.not_not, ne_eq] at h1;rw [cond_eq_ite] at h
 split at h
 ·simp at h
 rename_i h2
 rw [cond_eq_ite] at h
 split at h
 ·simp at h
 rename_i h3
 have q1 : 0 ≤ p.fFrom ∧ p.fFrom ≤ 99999 := ww.1 h1.1;have q2 : 0 ≤ p.fTo ∧ p.fTo ≤ 99999 := ww.1 h1.2;have q3 := ww.1 h
 have z1 : s152 [s153 p.fFrom, s153 p.fTo] = 0 := (qb2 _).2 (by
  intro x hx;simp only [List.mem_cons, List.not_mem_nil, or_false] at hx
  rcases hx with rfl | rfl
  ·exact wk.2 q1
  ·exact wk.2 q2)
 unfold s102;rw [z1];refine (qb2 _).2 ?_;intro x hx;simp only [List.mem_cons, List.not_mem_nil, or_false] at hx
 rcases hx with rfl | rfl | rfl
 ·unfold s154; rw [decide_eq_false (by simpa using h2)]; rfl
 ·unfold s154; rw [decide_eq_false (by simpa using h3)]; rfl
 ·exact wk.2 q3
structure ReqOk (q : S115) : Prop where
 c : s147 q.Carrier = true
 p : s147 q.Partner = true
 t : s4084 q.Terminal = 0
 k : s4086 q.Kind = true
 per : s102 q.Period = 0
 m : s4087 q.Minute 0 1439 = 0
 z : s4087 q.Size 1 9 = 0
 n : s4087 q.Noise 0 99 = 0
theorem qve {s : ByteArray} (h : s4031 s = true) : s4084 s = 0 := by
 unfold s4031 at h; unfold s4084 s4085;rw [qi6]
 by_cases h1 : s = (⟨#[]⟩ : ByteArray)
 ·simp [h1]
 ·simp only [h1, decide_false, Bool.false_or] at h
  simp [h]
theorem qvf {q : S115} (h : s4014 q = 0) : ReqOk q := by
 unfold s4014 at h;rw [cond_eq_ite] at h
 split at h
 ·cases h
 rename_i h1
 rw [cond_eq_ite] at h
 split at h
 ·cases h
 rename_i h2
 rw [cond_eq_ite] at h
 split at h
 ·cases h
 rename_i h3
 rw [cond_eq_ite] at h
 split at h
 ·rename_i h4; simp at h4; exact absurd h h4
 rename_i h4
 simp only [Bool.or_eq_true, Bool.not_eq_true', not_or, Bool.not_eq_false] at h1;obtain ⟨⟨⟨⟨a1, a2⟩, a3⟩, a4⟩, a5⟩ := h1;have h5 := (qkc _).1 h;refine ⟨by rw [qi6]; exact a2, by rw [qi6]; exact a3, qve a4, ?_, qvd (by simpa using h4), ?_, ?_, ?_⟩
 ·unfold s4086
  by_cases hA : q.Kind = (⟨#[65]⟩ : ByteArray)
  ·simp [hA]
  ·by_cases hD : q.Kind = (⟨#[68]⟩ : ByteArray)
   ·simp [hD]
   ·simp [hA, hD] at h2
 ·exact qay.2 (ww.1 (h5 _ (by simp)))
 ·exact qay.2 (ww.1 (h5 (s90 q.Size 1 9) (by simp)))
 ·exact qay.2 (ww.1 (h5 (s90 q.Noise 0 99) (by simp)))
def clB (a0 : S4026) (nm : ByteArray) (st : Int) : S4026 := S4026.mk (S115.mk nm a0.Request.Carrier a0.Request.Kind a0.Request.Terminal a0.Request.Partner (⟨#[]⟩) (S45.mk a0.Request.Period.fFrom a0.Request.Period.fTo a0.Request.Period.Days) a0.Request.Minute st a0.Request.Size a0.Request.Noise) a0.Historic a0.Retimed false a0.Yearround a0.Distance
theorem qss {a0 : S4026} (h : s4005 a0 = 0) {nm : ByteArray} {st : Int} (hn : s147 nm = true) (h0 : (⟨#[]⟩ : ByteArray) ≠ nm) (h1 : 0 ≤ st) (h2 : st ≤ 999) : s4034 (clB a0 nm st) = 0 := by
 have h3 := (qkc _).1 h;have hr := qvf (h3 (s4014 a0.Request) (by simp));have hd := ww.1 (h3 (s90 a0.Distance 0 20000) (by simp));refine (wj _).2 ?_;intro x hx;simp only [List.mem_cons, List.not_mem_nil, or_false] at hx
 rcases hx with rfl | rfl
 ·refine (qly _).2 ?_;intro x hx;simp only [List.mem_cons, List.not_mem_nil, or_false] at hx
  rcases hx with rfl | rfl | rfl | rfl | rfl | rfl | rfl | rfl | rfl | rfl | rfl | rfl
  ·show s4085 (!(s147 nm)) 8 = 0; rw [hn]; rfl
  ·show s4085 (!(s147 a0.Request.Carrier)) 8 = 0; rw [hr.c]; rfl
  ·show s4085 (!(s147 a0.Request.Partner)) 8 = 0; rw [hr.p]; rfl
  ·exact hr.t
  ·show s4084 (⟨#[]⟩ : ByteArray) = 0;unfold s4084; simp; rfl
  ·show s4085 (!(s4086 a0.Request.Kind)) 13 = 0; rw [hr.k]; rfl
  ·show s4085 (decide ((⟨#[]⟩ : ByteArray) = nm)) 32 = 0; rw [decide_eq_false h0]; rfl
  ·exact hr.per
  ·exact hr.m
  ·exact qay.2 ⟨h1, h2⟩
  ·exact hr.z
  ·exact hr.n
 ·exact qaz.2 hd
theorem qhl (f : S4026 → Bool) : ∀ (l : List S4026) (k : Nat), (∀ x ∈ l, f x = false) → s4061_l1 f l k = -1
 | [], k, _ => rfl
 | y :: t, k, h => by
  rw [s4061_l1, h y (by simp), cond_false, qhl f t (k + 1) fun x hx => h x (by simp [hx])]
theorem qhm (l0 : List S4026) (f : List S4026 → S4026 → Int) : ∀ (l : List S4026) (k : Nat), l0.drop k = l → (∀ k y, l0[k]? = some y → f (l0.take k) y = 0) → s4037_l1 l0 f l k = 0
 | [], k, _, _ => rfl
 | y :: t, k, hd, h => by
  have hy : l0[k]? = some y := by
   have : (l0.drop k)[0]? = some y := by rw [hd]; rfl
   simpa using this
  have h1 := h k y hy;rw [s4037_l1];have e : Int.toNat ((k : Nat) : Int) = k := rfl;rw [e, h1]
  have hd2 : l0.drop (k + 1) = t := by rw [← List.tail_drop, hd]; rfl
  exact qhm l0 f t (k + 1) hd2 h
theorem qhn {l : List S4026} (hlen : l.length ≤ 64) (hv : ∀ x ∈ l, s4034 x = 0) (hn : (l.map fun x => x.Request.Name).Nodup) : s4021 l = 0 := by
 unfold s4021;rw [decide_eq_false (by omega), cond_false];refine qhm l s4038 l 0 rfl ?_;intro k y hy;refine (wj _).2 ?_;intro x hx;simp only [List.mem_cons, List.not_mem_nil, or_false] at hx
 rcases hx with rfl | rfl
 ·exact hv y (List.mem_of_getElem? hy)
 ·have hk := (List.getElem?_eq_some_iff.1 hy).1
  have : s4039 (l.take k) (fun x0 => s4040 x0 y) = false := by
   unfold s4039 s4061;rw [qhl]
   ·rfl
   ·intro x hx;obtain ⟨j, hj, hxj⟩ := List.mem_iff_getElem.1 hx;rw [List.length_take] at hj;show decide (x.Request.Name = y.Request.Name) = false;refine decide_eq_false fun e => ?_
    have h1 : (l.map fun x => x.Request.Name)[j]'(by simp; omega) = (l.map fun x => x.Request.Name)[k]'(by simpa using hk) := by
     rw [List.getElem_map, List.getElem_map];rw [List.getElem_take] at hxj;rw [hxj, e]
     congr 1
     exact congrArg S4026.Request ((List.getElem?_eq_some_iff.1 hy).2).symm
    exact (List.pairwise_iff_getElem.1 hn) j k (by simp; omega) (by simpa using hk) (by omega) h1
  rw [this]; rfl
end Go.Sim
set_option maxRecDepth 100000
namespace Go.Sim
theorem qlz : s4045 s4009 = 0 := by decide +kernel
theorem qq8 (a0 : S4026) : ∃ c : Int, (c = 0 ∨ c = 1 ∨ c = 2 ∨ c = 3) ∧ ∀ nm st, s4050 s4009 (clB a0 nm st) = some c := by
 obtain ⟨q, b1, b2, b3, b4, d⟩ := a0
 cases b1 <;> cases b2 <;> cases b4
 ·exact ⟨3, by decide, fun nm st => by kernel_rfl⟩
 ·exact ⟨2, by decide, fun nm st => by kernel_rfl⟩
 ·exact ⟨3, by decide, fun nm st => by kernel_rfl⟩
 ·exact ⟨2, by decide, fun nm st => by kernel_rfl⟩
 ·exact ⟨0, by decide, fun nm st => by kernel_rfl⟩
 ·exact ⟨0, by decide, fun nm st => by kernel_rfl⟩
 ·exact ⟨1, by decide, fun nm st => by kernel_rfl⟩
 ·exact ⟨1, by decide, fun nm st => by kernel_rfl⟩
end Go.Sim
set_option maxRecDepth 100000
namespace Go.Sim
abbrev kyD : S4063 × S4076 := (⟨⟨#[100, 97, 121, 115]⟩, true⟩, ⟨⟨#[100, 97, 121, 115]⟩, 5⟩)
abbrev kyS : S4063 × S4076 := (⟨⟨#[115, 101, 97, 116, 115]⟩, true⟩, ⟨⟨#[115, 101, 97, 116, 115]⟩, 6⟩)
abbrev kyT : S4063 × S4076 := (⟨⟨#[100, 105, 115, 116, 97, 110, 99, 101]⟩, true⟩, ⟨⟨#[100, 105, 115, 116, 97, 110, 99, 101]⟩, 9⟩)
theorem qy6 : keysL s4009 0 = [kyD, kyS] := by decide +kernel
theorem qy7 : keysL s4009 1 = [kyD, kyS] := by decide +kernel
theorem qy8 : keysL s4009 2 = [kyD, kyS, kyT] := by decide +kernel
theorem qy9 : keysL s4009 3 = [kyD, kyS, kyT] := by decide +kernel
theorem kc5 (x : S4026) : kcO 5 x = some (s4076 x) := rfl
theorem kc6 (x : S4026) : kcO 6 x = some (s4077 x) := rfl
theorem kc9 (x : S4026) : kcO 9 x = some (s4080 x) := rfl
theorem f5 (a0 : S4026) (nm : ByteArray) (st : Int) : s4076 (clB a0 nm st) = (s4017 a0.Request.Period).1 := rfl
theorem f6 (a0 : S4026) (nm : ByteArray) (st : Int) : s4077 (clB a0 nm st) = st := rfl
theorem f9 (a0 : S4026) (nm : ByteArray) (st : Int) : s4080 (clB a0 nm st) = a0.Distance := rfl
def bySt (x y : Int) : Option (Int × ByteArray) := bif decide (x ≠ y) then some (IntKind.i64.wrap ((IntKind.i64.wrap (2 * (s4071 (!((decide (y < x)) == true))))) - 1), ⟨#[115, 101, 97, 116, 115]⟩) else some (0, ⟨#[]⟩)
theorem qst (a0 : S4026) (n1 n2 : ByteArray) (x y : Int) {c : Int} (hc : c = 0 ∨ c = 1 ∨ c = 2 ∨ c = 3) (z : ByteArray) (u : Int) : s4068_l1 (clB a0 n1 x) (clB a0 n2 y) (keysL s4009 c) z u = bySt x y := by
 have e : ∀ v : Int, decide (v ≠ v) = false := fun v => by simp
 rcases hc with rfl | rfl | rfl | rfl
 ·rw [qy6]; simp only [s4068_l1, kc5, kc6, f5, f6, bindO, e, cond_false, bySt]
 ·rw [qy7]; simp only [s4068_l1, kc5, kc6, f5, f6, bindO, e, cond_false, bySt]
 ·rw [qy8]; simp only [s4068_l1, kc5, kc6, kc9, f5, f6, f9, bindO, e, cond_false, bySt]
 ·rw [qy9]; simp only [s4068_l1, kc5, kc6, kc9, f5, f6, f9, bindO, e, cond_false, bySt]
theorem qvg (a0 : S4026) (n1 n2 : ByteArray) (x y : Int) : ∃ s, s4068 s4009 (clB a0 n1 x) (clB a0 n2 y) = some s ∧ s.1 = (if x = y then 0 else if y < x then -1 else 1) := by
 obtain ⟨c, hc, h⟩ := qq8 a0;unfold s4068;rw [h, h];simp only [bindO]
 have e : decide (c ≠ c) = false := by simp
 rw [e, cond_false, qst a0 n1 n2 x y hc];rw [cond_eq_ite]
 split
 ·rename_i hE
  refine ⟨_, rfl, ?_⟩
  have hxy : x = y := by
   simp [clB, eqAnd] at hE
   rcases Int.lt_trichotomy x y with h9 | h9 | h9
   ·exfalso; revert hE; simp [Int.ne_of_lt h9]
   ·exact h9
   ·exfalso; revert hE; simp [Int.ne_of_gt h9]
  rw [if_pos hxy]
 ·unfold bySt
  by_cases hxy : x = y
  ·subst hxy;refine ⟨(0, ⟨#[]⟩), by simp, by simp⟩
  ·rw [decide_eq_true (by simpa using hxy), cond_true, if_neg hxy];refine ⟨_, rfl, ?_⟩
   by_cases hl : y < x
   ·simp only [hl, decide_true, if_pos]; decide
   ·simp only [hl, decide_false, if_neg]; decide
end Go.Sim
set_option maxRecDepth 100000
namespace Go.Sim
theorem qq9 (u : Int) : s202 u = false := by unfold s202; simp
theorem qsu (u v : Int) : decide (s167 u v < 0) = decide (u < v) := by
 unfold s167;rw [qq9, qq9, cond_false, cond_false]
 by_cases h1 : u < v
 ·rw [decide_eq_true h1, cond_true]; rfl
 ·rw [decide_eq_false h1, cond_false]
  by_cases h2 : v < u
  ·rw [decide_eq_true h2, cond_true]; rfl
  ·rw [decide_eq_false h2, cond_false]; rfl
theorem qsv (a b : ByteArray) : decide (s133 a b < 0) = strLt a b := by
 unfold s133
 have e : ∀ x, s183 x = false := fun x => by unfold s183; simp
 rw [e, e, cond_false, cond_false]
 cases strLt a b with
 | true => rfl
 | false =>
  rw [cond_false]
  by_cases h : a = b <;> simp [h]
theorem qvh (a0 : S4026) {l : List S4026} {L : List Int} {i j : Int} {n1 n2 : ByteArray} {x y u v : Int} (hi : ixO l i = some (clB a0 n1 x)) (hj : ixO l j = some (clB a0 n2 y)) (hu : ixO L i = some u) (hv : ixO L j = some v) :
  ∃ c, s4046 i j ⟨s4009, l, L⟩ = some c ∧ decide (c < 0) = (decide (y < x) || (decide (x = y) && decide (u < v))) := by
 obtain ⟨s, h1, h2⟩ := qvg a0 n1 n2 x y;unfold s4046 s4047;dsimp only;rw [hi, hj, hu, hv];simp only [bindO];rw [h1];simp only [bindO];rw [h2]
 by_cases hxy : x = y
 ·subst hxy;rw [if_pos rfl];refine ⟨s167 u v, by simp [bindO], ?_⟩;rw [qsu]
  simp
 ·rw [if_neg hxy]
  by_cases hl : y < x
  ·rw [if_pos hl];refine ⟨-1, by simp [bindO, h2, hxy, hl], ?_⟩
   simp [hl]
  ·rw [if_neg hl];refine ⟨1, by simp [bindO, h2, hxy, hl], ?_⟩
   simp [hl, hxy]
theorem vk {l : List Int} {i : Int} (h : 0 ≤ i) (h2 : i < l.length) : ixO l i = some (l[i.toNat]'(by omega)) := by
 unfold ixO;rw [decide_eq_true h, cond_true, List.getElem?_eq_getElem]
theorem qno : ∀ (k : Nat) (x i : Int) (l : List Int), 0 ≤ x → i < l.length → i.toNat < k → ∃ D, s4010_l2 k x i l = some (D, 0) ∧ D.Perm l
 | 0, _, _, _, _, _, h => by omega
 | k + 1, x, i, l, hx, hi, hk => by
  rw [s4010_l2]
  by_cases h0 : 0 < i
  ·rw [decide_eq_true h0, cond_true];have q := qkd x hx;generalize Int.tmod (48271 * x) 2147483647 = z at *;have hz : 0 ≤ Int.tmod z (i + 1) ∧ Int.tmod z (i + 1) < i + 1 := ⟨Int.tmod_nonneg _ q.1, Int.tmod_lt_of_pos _ (by omega)⟩;generalize Int.tmod z (i + 1) = w at *;rw [vk hz.1 (by omega), vk (by omega) hi];simp only [bindO];rw [vk hz.1 (by simp; omega)];simp only [bindO];obtain ⟨D, h1, h2⟩ := qno k z (i - 1) ((l.set i.toNat (l[w.toNat]'(by omega))).set w.toNat (l[i.toNat]'(by omega))) q.1 (by simp; omega) (by omega);exact ⟨D, h1, h2.trans (List.set_set_perm (by omega) (by omega))⟩
  ·rw [decide_eq_false h0, cond_false];exact ⟨l, rfl, List.Perm.refl l⟩
theorem qnp (a n : Int) (ha : 0 ≤ a) (hn : 0 ≤ n) : ∀ (m k : Nat), n.toNat = k + m → ∃ D, s4010_l1 a n m (iotaN k) ((k : Nat) : Int) = some (D, 0) ∧ D.Perm (iotaN n.toNat)
 | 0, k, h => by
  rw [s4010_l1]
  have e : copyL (List.replicate (Int.toNat n) 0) (iotaN k) = iotaN n.toNat := by
   unfold copyL;rw [List.length_replicate, h, Nat.add_zero, j8, List.take_of_length_le (by rw [j8]; exact Nat.le_refl _), List.drop_of_length_le (by simp), List.append_nil]
  rw [e];exact qno _ a (n - 1) _ ha (by rw [j8]; omega) (by omega)
 | m + 1, k, h => by
  rw [s4010_l1, qbu];exact qnp a n ha hn m (k + 1) (by omega)
theorem draw_ok {a n : Int} (h1 : 1 ≤ a) (h2 : a ≤ 2147483646) (h3 : 0 ≤ n) (h4 : n ≤ 256) : ∃ D, s4010 a n = some (D, 0) ∧ D.Perm (iotaN n.toNat) := by
 unfold s4010
 have z : s152 [(s155 a 1 2147483646), (s155 n 0 256)] = 0 := (qb2 _).2 (by
  intro x hx;simp only [List.mem_cons, List.not_mem_nil, or_false] at hx
  rcases hx with rfl | rfl
  ·exact wk.2 ⟨h1, h2⟩
  ·exact wk.2 ⟨h3, h4⟩)
 rw [z];have := qnp a n (by omega) h3 n.toNat 0 (by omega)
 simpa [iotaN] using this
theorem put_ok (r : (List Int) × Int) : ∀ (bn : List Int) (k : Nat) (x : List Int), (∀ b ∈ bn, 0 ≤ b ∧ b < x.length) → k + bn.length ≤ r.1.length → bn.Nodup →
  ∃ R, s4022_l1 r bn k x = some R ∧ R.length = x.length ∧ (∀ j b, bn[j]? = some b → R[b.toNat]? = r.1[k + j]?) ∧ (∀ i : Nat, ((i : Nat) : Int) ∉ bn → R[i]? = x[i]?)
 | [], k, x, _, _, _ => ⟨x, rfl, rfl, (fun j b h => by simp at h), fun i _ => rfl⟩
 | b :: t, k, x, hb, hk, hn => by
  have hb0 := hb b (by simp);have hn1 := List.nodup_cons.1 hn;simp only [List.length_cons] at hk;rw [s4022_l1];rw [vk (Int.natCast_nonneg k) (by omega), vk hb0.1 hb0.2];simp only [bindO];obtain ⟨R, h1, h2, h3, h4⟩ := put_ok r t (k + 1) (x.set b.toNat (r.1[(((k : Nat) : Int)).toNat]'(by simp; omega))) (fun c hc => by have := hb c (by simp [hc]); simpa using this) (by omega) hn1.2;refine ⟨R, h1, by simpa using h2, ?_, ?_⟩
  ·intro j c hc
   cases j with
   | zero =>
    obtain rfl : b = c := by simpa using hc
    have := h4 b.toNat (by rw [Int.toNat_of_nonneg hb0.1]; exact hn1.1);rw [this, List.getElem?_set_self (by omega)]
    simp
   | succ j =>
    have := h3 j c (by simpa using hc);rw [this]; congr 1; omega
  ·intro i hi;simp only [List.mem_cons, not_or] at hi;rw [h4 i hi.2, List.getElem?_set_ne (by omega)]
end Go.Sim
set_option maxRecDepth 100000
namespace Go.Sim
def atN (NL : List ByteArray) (i : Int) : ByteArray := NL.getD i.toNat ByteArray.empty
def bnN (NL : List ByteArray) : List Int := isort (fun i j => strLt (atN NL i) (atN NL j)) (iotaN NL.length)
theorem vm {n : Nat} {x : Int} : x ∈ iotaN n ↔ 0 ≤ x ∧ x < (n : Int) := by
 unfold iotaN;simp only [List.mem_map, List.mem_range]
 constructor
 ·rintro ⟨a, h, rfl⟩; omega
 ·intro h; exact ⟨x.toNat, by omega, by omega⟩
theorem qcn (n : Nat) : (iotaN n).Nodup := by
 unfold iotaN;refine List.Pairwise.map _ ?_ (List.nodup_range (n := n));intro a b h e;exact h (by omega)
theorem qnq : ∀ (m k : Nat), s4041_l1 m (iotaN k) ((k : Nat) : Int) = iotaN (k + m)
 | 0, k => by rw [s4041_l1]; rfl
 | m + 1, k => by
  rw [s4041_l1, qbu];have := qnq m (k + 1);rw [show k + (m + 1) = k + 1 + m by omega, ← this]; rfl
theorem qke (n : Nat) : s4041 (n : Int) = iotaN n := by
 unfold s4041;have := qnq n 0
 simpa [iotaN] using this
theorem wx {l : List S4026} {i : Int} (h : 0 ≤ i) (h2 : i < l.length) : ixO l i = some (l[i.toNat]'(by omega)) := by
 unfold ixO;rw [decide_eq_true h, cond_true, List.getElem?_eq_getElem]
theorem qnr (l : List S4026) : s4042 (s4041 (l.length : Int)) (fun x y => s4043 x y l) = some (bnN (l.map fun c => c.Request.Name)) := by
 rw [qke];unfold bnN;rw [List.length_map];refine qj8 ?_;intro y hy x hx;have hy := vm.1 hy;have hx := vm.1 hx;refine ⟨_, by unfold s4043; rw [wx hx.1 hx.2, wx hy.1 hy.2]; rfl, ?_⟩;rw [qsv];unfold atN;rw [List.getD_eq_getElem?_getD, List.getD_eq_getElem?_getD, List.getElem?_map, List.getElem?_map, List.getElem?_eq_getElem (by omega), List.getElem?_eq_getElem (by omega)]
 rfl
theorem qns (NL : List ByteArray) : (bnN NL).Perm (iotaN NL.length) := xq _ _
theorem qnt {l : List S4026} {k : Int} (h1 : 1 ≤ k) (h2 : k ≤ 2147483646) (hl : l.length ≤ 12) : ∃ D L, s4010 k (l.length : Int) = some (D, 0) ∧ s4022 k l = some L ∧ L.length = l.length ∧ D.length = l.length ∧ L.Perm (iotaN l.length) ∧
  (∀ (j : Nat) (b : Int), (bnN (l.map fun c => c.Request.Name))[j]? = some b → L[b.toNat]? = D[j]?) := by
 obtain ⟨D, d1, d2⟩ := draw_ok (n := (l.length : Int)) h1 h2 (by omega) (by omega);have hp := qns (l.map fun c => c.Request.Name);rw [List.length_map] at hp;generalize hbn : bnN (l.map fun c => c.Request.Name) = bn at *
 have hDl : D.length = l.length := by have := d2.length_eq; rw [j8] at this; simpa using this
 have hbl : bn.length = l.length := by have := hp.length_eq; rw [j8] at this; exact this
 have hnd : bn.Nodup := hp.nodup_iff.2 (qcn _)
 obtain ⟨L, r1, r2, r3, _⟩ := put_ok (D, 0) bn 0 (List.replicate l.length 0) (fun b hb => by
  have := vm.1 (hp.mem_iff.1 hb)
  rw [List.length_replicate]; exact this) (by show 0 + bn.length ≤ D.length; omega) hnd
 rw [List.length_replicate] at r2
 have h3 : ∀ (j : Nat) (b : Int), bn[j]? = some b → L[b.toNat]? = D[j]? := fun j b hb => by have := r3 j b hb; simpa using this
 refine ⟨D, L, d1, ?_, r2, hDl, ?_, h3⟩
 ·unfold s4022;rw [qnr, hbn];simp only [bindO];rw [d1];simp only [bindO];exact r1
 ·have e1 : bn.map (fun b => L.getD b.toNat 0) = D := by
   refine List.ext_getElem? fun j => ?_;rw [List.getElem?_map]
   cases hj : bn[j]? with
   | none =>
    have : bn.length ≤ j := List.getElem?_eq_none_iff.1 hj;rw [List.getElem?_eq_none (by omega)]; rfl
   | some b =>
    have hb := h3 j b hj;have hm := vm.1 (hp.mem_iff.1 (List.mem_of_getElem? hj));rw [← hb, Option.map_some, List.getD_eq_getElem?_getD, List.getElem?_eq_getElem (by omega)]; rfl
  have e2 : (iotaN l.length).map (fun b => L.getD b.toNat 0) = L := by
   refine List.ext_getElem? fun j => ?_;unfold iotaN;rw [List.map_map, List.getElem?_map]
   rcases Nat.lt_or_ge j l.length with hj | hj
   ·rw [List.getElem?_range hj, Option.map_some, List.getElem?_eq_getElem (by omega)];simp only [Function.comp];rw [List.getD_eq_getElem?_getD, Int.toNat_natCast, List.getElem?_eq_getElem (by omega)]; rfl
   ·rw [List.getElem?_eq_none (by simpa using hj), List.getElem?_eq_none (by omega)]; rfl
  have := hp.map (fun b => L.getD b.toNat 0);rw [e1, e2] at this;exact this.symm.trans (by simpa using d2)
end Go.Sim
set_option maxRecDepth 100000
namespace Go.Sim
def stAt (l : List S4026) (x : Int) : Int := ((l[x.toNat]?).map fun c => c.Request.Seats).getD 0
def lotAt (L : List Int) (x : Int) : Int := L.getD x.toNat 0
def ltR (l : List S4026) (L : List Int) (x y : Int) : Bool := decide (stAt l y < stAt l x) || (decide (stAt l x = stAt l y) && decide (lotAt L x < lotAt L y))
theorem qnu (n : Nat) : copyL (List.replicate n (0 : Int)) (iotaN n) = iotaN n := by
 unfold copyL;rw [List.length_replicate, List.take_of_length_le (by rw [j8]; exact Nat.le_refl _), List.drop_of_length_le (by simp [j8]), List.append_nil]
theorem qdq {L : List Int} {x : Int} (h0 : 0 ≤ x) (h : x < L.length) : ixO L x = some (lotAt L x) := by
 rw [vk h0 h];unfold lotAt;rw [List.getD_eq_getElem?_getD, List.getElem?_eq_getElem (by omega)]; rfl
theorem qqc (a0 : S4026) {l : List S4026} {L : List Int} (hcl : ∀ y ∈ l, ∃ nm st, y = clB a0 nm st) (hL : L.length = l.length) :
  s4042 (copyL (List.replicate (List.length l) 0) (s4041 (List.length l : Int))) (fun x0 x1 => s4046 x0 x1 ⟨s4009, l, L⟩) = some (isort (ltR l L) (iotaN l.length)) := by
 rw [qke, qnu];refine qj8 ?_;intro y hy x hx;have hy := vm.1 hy;have hx := vm.1 hx;have e1 := wx hx.1 hx.2;have e2 := wx hy.1 hy.2;obtain ⟨n1, s1, q1⟩ := hcl (l[x.toNat]'(by omega)) (List.getElem_mem _);obtain ⟨n2, s2, q2⟩ := hcl (l[y.toNat]'(by omega)) (List.getElem_mem _);rw [q1] at e1;rw [q2] at e2;obtain ⟨c, h1, h2⟩ := qvh a0 e1 e2 (qdq (L := L) hx.1 (by omega)) (qdq (L := L) hy.1 (by omega));refine ⟨c, h1, ?_⟩
 have t1 : stAt l x = s1 := by unfold stAt; rw [List.getElem?_eq_getElem (by omega), q1]; rfl
 have t2 : stAt l y = s2 := by unfold stAt; rw [List.getElem?_eq_getElem (by omega), q2]; rfl
 unfold ltR;rw [h2, t1, t2]
theorem qkf (f : Int → Option Bool) : ∀ (l : List Int) (k : Nat), (∀ x ∈ l, f x = some false) → s1170_l1 f l k = some (-1)
 | [], k, _ => rfl
 | y :: t, k, h => by
  rw [s1170_l1, h y (by simp)];simp only [bindO, cond_false];exact qkf f t _ fun x hx => h x (by simp [hx])
theorem qra (r : S4059) (r1 : List Int) (r2 : Int) : ∀ (l : List Int) (k : Nat) (x : List Bool), (∀ y ∈ l, ∃ c, ixO r.claims y = some c ∧ c.Newcomer = false) →
  s4025_l1 r r1 r2 l k x = bindO (ilvO r.program.Of r.program.For (x ++ List.replicate l.length false)) fun r8 => s4025_l2 r1 r2 r8 0 r1
 | [], k, x, _ => by rw [s4025_l1]; simp
 | y :: t, k, x, h => by
  obtain ⟨c, h1, h2⟩ := h y (by simp);rw [s4025_l1, h1];simp only [bindO];rw [h2, qra r r1 r2 t (k + 1) _ fun z hz => h z (by simp [hz])];rw [List.append_assoc, List.length_cons, List.replicate_succ]; rfl
theorem qnv (r1 : List Int) (hr : r1.length ≤ 1000) : ∀ (m k : Nat), k + m = r1.length → s4025_l2 r1 0 ((List.range' k m).map fun j => ((j : Nat) : Int)) k r1 = some r1
 | 0, k, _ => rfl
 | m + 1, k, h => by
  rw [List.range'_succ, List.map_cons, s4025_l2]
  have e : IntKind.i64.wrap (0 + ((k : Nat) : Int)) = ((k : Nat) : Int) := by rw [wrap_i64 (by unfold I64; omega)]; omega
  rw [e];have e2 : List.drop (Int.toNat 0) r1 = r1 := rfl;rw [e2, vk (Int.natCast_nonneg k) (by omega)];simp only [bindO]
  have e3 : r1.set (Int.toNat ((k : Nat) : Int)) (r1[(Int.toNat ((k : Nat) : Int))]'(by simp; omega)) = r1 := by
   rw [List.set_getElem_self]
  rw [e3];exact qnv r1 hr m (k + 1) (by omega)
theorem qqd (a0 : S4026) {l : List S4026} {L : List Int} (hcl : ∀ y ∈ l, ∃ nm st, y = clB a0 nm st) (hL : L.length = l.length) (hne : 0 < l.length) (hlen : l.length ≤ 12) :
  s4025 ⟨s4009, l, L⟩ = some (isort (ltR l L) (iotaN l.length)) := by
 unfold s4025;dsimp only;rw [qqc a0 hcl hL];simp only [bindO];have hp : (isort (ltR l L) (iotaN l.length)).Perm (iotaN l.length) := xq _ _
 have hpl : (isort (ltR l L) (iotaN l.length)).length = l.length := by rw [hp.length_eq, j8]
 have hin : ∀ x ∈ isort (ltR l L) (iotaN l.length), 0 ≤ x ∧ x < (l.length : Int) := fun x hx => vm.1 (hp.mem_iff.1 hx);generalize isort (ltR l L) (iotaN l.length) = bs at *;obtain ⟨c, _, hc⟩ := qq8 a0
 have hf : ∀ x ∈ bs, s4049 x ⟨s4009, l, L⟩ = some (decide (2 ≤ c)) := by
  intro x hx;obtain ⟨h0, h1⟩ := hin x hx;unfold s4049;dsimp only;rw [wx h0 h1];obtain ⟨n1, s1, q1⟩ := hcl (l[x.toNat]'(by omega)) (List.getElem_mem _);simp only [bindO];rw [q1, hc]
  rfl
 obtain ⟨b, t, rfl⟩ : ∃ b t, bs = b :: t := by cases bs with
  | nil => simp at hpl; omega
  | cons b t => exact ⟨b, t, rfl⟩
 by_cases h2 : 2 ≤ c
 ·have : s1170 (b :: t) (fun x0 => s4049 x0 ⟨s4009, l, L⟩) = some 0 := by
   unfold s1170;rw [s1170_l1, hf b (by simp), decide_eq_true h2]
   rfl
  rw [this];simp only [bindO]
  have e : decide ((0 : Int) < 0) = false := by decide
  rw [e, cond_false];have e2 : List.drop (Int.toNat 0) (b :: t) = b :: t := rfl;rw [e2, qra]
  ·dsimp only
   have e3 : ilvO s4009.Of s4009.For ([] ++ List.replicate (b :: t).length false) = some (iotaN (b :: t).length) := by
    unfold ilvO;rw [if_pos ⟨rfl, rfl, by simp, by simp at hpl ⊢; omega⟩]
    simp
   rw [e3];simp only [bindO];have := qnv (b :: t) (by omega) (b :: t).length 0 (by omega);rw [List.range_eq_range'.symm] at this;exact this
  ·intro y hy;obtain ⟨h0, h1⟩ := hin y hy;refine ⟨_, wx h0 h1, ?_⟩;obtain ⟨n1, s1, q1⟩ := hcl (l[y.toNat]'(by omega)) (List.getElem_mem _);rw [q1]; rfl
 ·have : s1170 (b :: t) (fun x0 => s4049 x0 ⟨s4009, l, L⟩) = some (-1) := by
   unfold s1170;refine qkf _ _ _ fun x hx => ?_;rw [hf x hx, decide_eq_false h2]
  rw [this];simp only [bindO]
  rfl
theorem qnw (a0 : S4026) (h0 : s4005 a0 = 0) {l : List S4026} {k : Int} (hcl : ∀ y ∈ l, ∃ nm st, y = clB a0 nm st) (hok : s4021 l = 0) (hne : 0 < l.length) (hlen : l.length ≤ 12) (h1 : 1 ≤ k) (h2 : k ≤ 2147483646) {L : List Int} (hLk : s4022 k l = some L) (hL : L.length = l.length) :
  s4008 s4009 k l = some (isort (ltR l L) (iotaN l.length), 0) := by
 unfold s4008
 have z : s4023 s4009 k l = 0 := by
  unfold s4023;refine (wj _).2 ?_;intro x hx;simp only [List.mem_cons, List.not_mem_nil, or_false] at hx
  rcases hx with rfl | rfl | rfl
  ·exact qlz
  ·exact qaz.2 ⟨h1, h2⟩
  ·exact hok
 rw [z]
 have e : decide ((0 : Int) ≠ 0) = false := by decide
 rw [e, cond_false]
 have hr : s4024 s4009 k l = some ⟨s4009, l, L⟩ := by
  unfold s4024;rw [hLk]; rfl
 rw [hr];simp only [bindO];rw [qqd a0 hcl hL hne hlen]
section
variable {E : Env} {w0 : World} {M0 : Nat → Prop}
def AgF (c k : Nat) (xs : List (List G)) (ev : Operand → TV) : List Operand → List G → Prop
 | [], [] => True
 | x :: l, g :: gs => (ev x = .g g ∨ (ev x = .osl c (k + 1) 0 xs.length ∧ g = .sl (k + 1) xs)) ∧ AgF c k xs ev l gs
 | _, _ => False
theorem qsw {c k : Nat} {xs : List (List G)} {ev : Operand → TV} : AgF c k xs ev [] [] := trivial
theorem qkg {c k : Nat} {xs : List (List G)} {ev : Operand → TV} {x : Operand} {l : List Operand} {g : G} {gs : List G} (h : ev x = .g g) (hl : AgF c k xs ev l gs) : AgF c k xs ev (x :: l) (g :: gs) := ⟨.inl h, hl⟩
theorem qsx {α : Type} {f0 : α → List G} {c k N : Nat} {l0 : List α} {ev : Operand → TV} {x : Operand} {l : List Operand} {gs : List G} (hN : l0.length = N) (h : ev x = .osl c (k + 1) 0 N) (hl : AgF c k (l0.map f0) ev l gs) : AgF c k (l0.map f0) ev (x :: l) (.sl (k + 1) (l0.map f0) :: gs) :=
 ⟨.inr ⟨by rw [h, List.length_map, hN], rfl⟩, hl⟩
theorem qnx {o : Oper} {mem : Mem} {ev : Operand → TV} {f : FuncId} {aps : Array Operand} {ts : Array TypeId} {args : List G} {r : G} {e : TypeId} {k : Nat} {xs : List (List G)} (c : Nat) (ho : o.op = .call ⟨.value (.func f), aps, ts⟩)
  (hk : Known E.P f) (hev : ev (.func f) = .g (.lit (.func (.func f) #[] #[]))) (hc : Con E f args r) (ha : AgF c k xs ev aps.toList args) (hl : lookO mem c = some (.arr e (k + 1) xs))
  (hrefs : ∀ i blk, lookO mem i = some blk → i ≠ c → blk.noref (some c) = true) (hbw : lookO E.bow c = none := by rfl) :
  EffW E o mem ev (.g r) ((c, .gone) :: mem) (some c) := by
 intro w0 M0 ρ w e' hm hx;obtain ⟨fn, h1, h2, h3⟩ := hk
 have hef : e' (.func f) = .func (.func f) #[] #[] := by
  have := hx (.func f) (by rw [ho]; simp [Op.operands, Call.operands]);rw [hev] at this;exact this
 have hres : (execOp e' o).run E.P w = .ok (.enter f (aps.toList.map e').toArray) w := by
  simp [execOp, ho, resolve, hef, Deferred.ofValue, invoke, run_callFunc h1 h2 h3, ← Array.toList_map]
 rw [hres]
 let ρ' : Rho := fun id => if id = c then none else ρ id
 have hρn : ∀ id, id ≠ c → ρ' id = ρ id := fun id h => by simp only [ρ', if_neg h]
 have hρ' : ∀ id x, ρ' id = some x → ρ id = some x ∧ id ≠ c := by
  intro id x h;simp only [ρ'] at h
  split at h
  ·cases h
  ·exact ⟨h, by assumption⟩
 have hM : ∀ b, owned M0 ρ' b → owned M0 ρ b := by
  rintro b (hb | ⟨id, o, ho, rfl⟩)
  ·exact .inl hb
  ·exact .inr ⟨id, o, (hρ' id _ ho).1, rfl⟩
 have hno : ∀ ow, ρ c = some (some ow) → ¬ owned M0 ρ' ow.b := by
  rintro ow ho (hM0 | ⟨i, o, hi, he⟩)
  ·exact wy hm ho hbw (.inl hM0)
  ·exact (hρ' i _ hi).2 (hm.inj i c o ow (hρ' i _ hi).1 ho he)
 have hkl : ∀ id, some id ≠ some c → ρ id ≠ none → ρ' id = ρ id := fun id h _ => hρn id fun e => h (by rw [e])
 have hne : ∀ id b, lookO ((c, Blk.gone) :: mem) id = some b → (id = c ∧ b = .gone) ∨ (id ≠ c ∧ lookO mem id = some b) := by
  intro id b h;simp only [lookO] at h
  cases hbq : Nat.beq c id with
  | true =>
   rw [hbq] at h;exact .inl ⟨(Nat.eq_of_beq_eq_true hbq).symm, by simpa using h.symm⟩
  | false =>
   rw [hbq] at h;refine .inr ⟨fun e => ?_, h⟩;rw [e, Nat.beq_refl] at hbq; cases hbq
 have hglob : GlOk E w (owned M0 ρ') := by
  intro g vs hg;have := hm.glob g vs hg;exact ⟨⟨fun hb => this.1.1 (hM _ hb), this.1.2⟩, this.2.mono (fun _ _ _ => rfl) (fun b _ => hM b) this.1.1⟩
 have hm' : MRel E w0 M0 ρ' ((c, .gone) :: mem) w := by
  refine ⟨hm.below, hm.m0, hglob, ?_, ?_, ?_, ?_, hm.lentM, ?_⟩
  ·intro id x h;obtain ⟨h1, h2⟩ := hρ' id x h;obtain ⟨b, hb⟩ := hm.dom id x h1;refine ⟨b, ?_⟩;simp only [lookO]
   rw [show Nat.beq c id = false from by
    cases hbq : Nat.beq c id with
    | true => exact absurd (Nat.eq_of_beq_eq_true hbq).symm h2
    | false => rfl]
   exact hb
  ·exact fun id ow h => hm.fresh id ow (hρ' id _ h).1
  ·exact fun id id' ow ow' h1 h2 => hm.inj id id' ow ow' (hρ' id _ h1).1 (hρ' id' _ h2).1
  ·intro id x h;rw [hρn id (fun e => by rw [e, hbw] at h; cases h)];exact hm.keep id x h
  ·intro id blk h
   rcases hne id blk h with ⟨_, rfl⟩ | ⟨h1, h2⟩
   ·trivial
   ·exact (hm.blk id blk h2).mono (some c) (fun e => h1 (Option.some.inj e)) (hrefs id blk h2 h1) (fun ow ho => rfl) (fun _ _ _ => rfl) (fun b _ => hM b) hkl
 have hv : ∀ (l : List Operand) (args : List G), (∀ x ∈ l, TRel w (owned M0 ρ) ρ (ev x) (e' x)) → AgF c k xs ev l args → FitsT w (owned M0 ρ') args (l.map e') := by
  intro l
  induction l with
  | nil =>
   intro args _ h
   cases args with
   | nil => trivial
   | cons _ _ => exact h.elim
  | cons x l ih =>
   intro args hx h
   cases args with
   | nil => exact h.elim
   | cons g gs =>
    refine ⟨?_, ih gs (fun y hy => hx y (List.mem_cons_of_mem _ hy)) h.2⟩;have h0 := hx x List.mem_cons_self
    rcases h.1 with h1 | ⟨h1, rfl⟩
    ·rw [h1] at h0;exact g.mono h0 (fun _ _ _ => rfl) (fun b _ => hM b)
    ·rw [h1] at h0;have hview := qa0 hm hl h0 (Nat.zero_le _) (Nat.le_refl _);obtain ⟨a', cap, e1, g1, g2, g3, g4, g5, g6⟩ := hview;simp only [Nat.sub_zero, List.drop_zero, List.take_length] at e1 g1 g4 g5 g6;refine ⟨a', cap, e1, g1, g2, g5, ?_⟩
     rcases g6 with g6 | ⟨b, o, cur, news, rfl, ⟨ow, k0, rfl⟩, k1, k2, k3⟩
     ·have : xs = [] := List.eq_nil_of_length_eq_zero g6;subst this;exact .inl ⟨rfl, fun ha => (g3 ha).1⟩
     ·exact .inr ⟨ow.b, o, rfl, hno ow k0, jl k1 (k2.mono (fun _ _ _ => rfl) (fun b _ => hM b)) k3⟩
 refine (hc w (owned M0 ρ') _ (fun b h => hm'.lt b h) hglob (hv aps.toList args (fun x hx' => hx x (by rw [ho]; simp [Op.operands, Call.operands]; exact .inr (by simpa using hx'))) ha)).mono ?_;rintro _ w' ⟨v, rfl, hg, hr⟩;exact ⟨v, rfl, ρ', hm'.grow hg, fun tv u hn' h => (h.mono (some c) hn' (fun _ _ _ => rfl) (fun b _ => hM b) hkl : TRel w (owned M0 ρ') ρ' tv u).grow hg, hr⟩
end
section
variable {E : Env} {w0 : World} {M0 : Nat → Prop}
def G.e0 : G := ⟨fun _ _ u => ∃ b o, u = .slice (some ⟨b, o, none⟩) 0 0, fun h _ _ => h⟩
theorem qsy {o : Oper} {ev : Operand → TV} {t el : TypeId} {k : Nat} {b : Bool} (ho : o.op = .buildSlice t 0 #[]) (ht : E.P.underlying t = some (.slice el)) (he : tyK E.P el = some (k + 1, b)) (mem : Mem) : Eff E o mem ev (.g .e0) :=
 qdo (fun w M ρ e hM hev => by
  refine ⟨.slice (some ⟨w.heap.size, 0, none⟩) 0 0, w.alloc (.cells #[] el), ?_, Grow.alloc w _, w.heap.size, 0, rfl⟩
  simp [execOp, ho, Instr.buildSlice, underlying, ht, run_sizeOf he, Instr.fill, newRow, Array.range_zero']) mem
theorem qqe {α : Type} {f : α → List G} {new : List α} {o : Oper} {ev : Operand → TV} {s x : Operand} {t e : TypeId} {k by_ : Nat} (ho : o.op = .call ⟨.builtin .append, #[s, x], #[t, t]⟩) (ha : appK E.P t = some (e, k + 1, by_ + 1)) (hs : ev s = .g .e0)
  (hx : ev x = .g (.sl (k + 1) (new.map f))) (hb : new.length * (by_ + 1) ≤ 140737488355328) (mem : Mem) : Eff E o mem ev (.g (.sl (k + 1) (new.map f))) := by
 intro w0 M0 ρ w e' hm he;obtain ⟨i, z, t1, t2, t3, t4, t5, t6⟩ := appK_spec ha;have h1 := he s (by rw [ho]; simp [Op.operands, Call.operands]);rw [hs] at h1;obtain ⟨b0, o0, h1⟩ := h1;have h2 := he x (by rw [ho]; simp [Op.operands, Call.operands]);rw [hx] at h2;obtain ⟨a, c, v1, v2, v3, v4, v5⟩ := h2
 have hrun : (execOp e' o) = (do pure (.value (← Builtin.append_ #[t, t] o.type #[.slice (some ⟨b0, o0, none⟩) 0 0, .slice a (new.map f).length c])) : Sem Next) := by simp [execOp, ho, resolve, invoke, builtin, h1, v1]
 rw [hrun]
 by_cases hz : (new.map f).length = 0
 ·rw [hz];have hn : new.map f = [] := List.eq_nil_of_length_eq_zero hz
  have hf : (Builtin.firstCells i.size 0 (.slice a 0 c)).run E.P w = .ok #[] w := by
   cases a with
   | none => simp [Builtin.firstCells]
   | some a => simp [Builtin.firstCells, loadCells, loadCellsFrom]
  have hr : (Builtin.append_ #[t, t] o.type #[.slice (some ⟨b0, o0, none⟩) 0 0, .slice a 0 c]).run E.P w = .ok (.slice (some ⟨b0, o0, none⟩) 0 0) w := by
   simp [Builtin.append_, run_underlying t1, sizeOf, typeInfo, t2, Builtin.lenOf, hf, storeCells]
  rw [Sem.run_bind, hr, hn];exact ⟨Grow.refl w, some ⟨b0, o0, none⟩, 0, rfl, Nat.le_refl _, Nat.zero_le _, by simp, .inl ⟨rfl, fun h => by cases h⟩⟩
 ·have hpos : 0 < (new.map f).length := Nat.pos_of_ne_zero hz;have hfl := vo v4
  rcases v5 with ⟨v5, _⟩ | ⟨b, oo, rfl, v6, v7⟩
  ·rw [v5] at hfl;simp only [List.length_nil] at hfl;have := Nat.mul_pos hpos (show 0 < k + 1 by omega)
   omega
  obtain ⟨vs, w8, w9⟩ := v7.vals
  have hlv : vs.length = (new.map f).length * i.size := by rw [w8.length, hfl, t4]
  have hadd : ∀ j u, vs[j]? = some u → w.cell? ((⟨b, oo, none⟩ : Addr).add j) = some u := fun j u hj => by rw [Addr.add_lit]; exact w9 j u hj
  have hmax : (new.map f).length ≤ maxLen := Nat.le_trans v2 v3
  have h63 : (new.map f).length ≤ 9223372036854775807 := by simp only [maxLen] at hmax; omega
  have hbb : (0 + (new.map f).length) * i.bytes ≤ 140737488355328 := by rw [t5, Nat.zero_add, List.length_map]; exact hb
  have hr := run_append_grow (P := E.P) w t o.type e i z t1 t2 t3 ⟨b0, o0, none⟩ 0 0 [] (by simp) (by simp) ⟨b, oo, none⟩ (new.map f).length c vs hlv hadd (by omega) (by omega) (growslice_fits (by omega) hbb);rw [Sem.run_bind, hr];have hge := grownCap_ge w (0 + (new.map f).length) 0 e;have hle := grownCap_le_maxLen w (0 + (new.map f).length) 0 e (by rw [Nat.zero_add]; exact hmax)
  have hg : Grow w (w.drew.alloc (.cells (([] : List Value).toArray ++ vs.toArray ++ Builtin.zeroCells z.cells (grownCap w (0 + (new.map f).length) 0 e - (0 + (new.map f).length))) e)) :=
   ⟨rfl, rfl, rfl, by simp, fun q hq => RowKit.Below.heap_alloc w.drew _ q hq⟩
  refine ⟨hg, some ⟨w.heap.size, 0, none⟩, grownCap w (0 + (new.map f).length) 0 e, by rw [Nat.zero_add], by omega, hle, v4, .inr ⟨w.heap.size, 0, rfl, fun h => absurd (hm.lt _ h) (Nat.lt_irrefl _), ?_⟩⟩;refine jl (heap_alloc_new w.drew _) (w8.mono (fun q hq _ => hg.block q hq) (fun _ _ h => h)) ?_;intro j u hj;have hjl : j < vs.length := (List.getElem?_eq_some_iff.1 hj).1
  simp
  rw [Array.getElem?_append_left (by simpa using hjl)]
  simpa using hj
end
end Go.Sim
