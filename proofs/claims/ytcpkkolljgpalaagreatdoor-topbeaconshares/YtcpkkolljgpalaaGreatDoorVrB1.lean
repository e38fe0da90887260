/-
  What is proved: lemmas and contracts of functions on the way to the law topBeaconShares (part 10).
-/
import Derived.Test.YtcpkkolljgpalaaGreatDoorVrA9
import Derived.Test.YtcpkkolljgpalaaGreatDoorVrA5
import Derived.Test.YtcpkkolljgpalaaGreatDoorVrA7
import Derived.Scope
import Derived.Test.YtcpkkolljgpalaaGreatDoorVrA4
import Derived.Shelf.SlSortCmp.WholeK
import Derived.Lib.QuietBelow
import Derived.Shelf.SlLaysF0
import Derived.Shelf.SlLaysC2
import Derived.Test.YtcpkkolljgpalaaGreatDoorVrA6
set_option linter.unusedSectionVars false
set_option linter.unusedSimpArgs false
set_option linter.unusedVariables false
set_option linter.unnecessarySimpa false
set_option linter.deprecated false
namespace Go.Sim
section
variable {E : Env} {w0 : World} {M0 : Nat → Prop}
theorem args_renE {w : World} {M : Nat → Prop} {ρ ρc : Rho} {p c k i : Nat} {ev : Operand → TV} {e : Operand → Value} (hρ : ∀ q d, lookO [(p, c)] q = some d → ρc q = ρ d) {aps : List Operand} {args : List TV} (h : ∀ x ∈ aps, TRel w M ρ (ev x) (e x))
  (he : aps.map (fun x => some (ev x)) = some (.eptr c k i 0) :: args.map (renT [(p, c)])) : ArgsT w M ρc (.eptr p k i 0 :: args) (aps.map e) := by
 cases aps with
 | nil => simp at he
 | cons x aps =>
  simp only [List.map_cons, List.cons.injEq, Option.some.injEq] at he;refine ⟨?_, args_ren hρ (fun z hz => h z (List.mem_cons_of_mem _ hz)) he.2⟩;have h1 := h x List.mem_cons_self;rw [he.1] at h1;obtain ⟨ow, h3, h4⟩ := h1;exact ⟨ow, (hρ p c (by simp [lookO])).trans h3, h4⟩
theorem eff_callE1 {o : Oper} {mem : Mem} {ev : Operand → TV} {f : FuncId} {aps : Array Operand} {ts : Array TypeId} {args : List TV} {k i : Nat} {b b' : Blk} {r : G} (p c : Nat) (ho : o.op = .call ⟨.value (.func f), aps, ts⟩)
  (hk : Known E.P f) (hev : ev (.func f) = .g (.lit (.func (.func f) #[] #[]))) (hc : ConB E f (.eptr p k i 0 :: args) [(p, b)] r [(p, b')]) (ha : aps.toList.map (fun x => some (ev x)) = some (.eptr c k i 0) :: args.map (renT [(p, c)])) (hl : lookO mem c = some b) (hσ : lendOk [(p, c)] [(p, b)] [(p, b')] = true) (hg : b.ground = true) (hdr : E.dr = false := by rfl) :
  EffW E o mem ev (.g r) ((c, b') :: mem) none := by
 intro w0 M0 ρ w e hm hx;obtain ⟨fn, h1, h2, h3⟩ := hk
 have hp : lookO [(p, c)] p = some c := by simp [lookO]
 have hef : e (.func f) = .func (.func f) #[] #[] := by
  have := hx (.func f) (by rw [ho]; simp [Op.operands, Call.operands]);rw [hev] at this;exact this
 have := upon_callB (res := (execOp e o).run E.P w) (vs := aps.toList.map e) [(p, c)] hc hm ⟨⟨c, hp, hl, hg⟩, trivial⟩ hσ (fun ρc hρ => args_renE hρ (fun x hx' => hx x (by rw [ho]; simp [Op.operands, Call.operands]; exact .inr (by simpa using hx'))) ha) (by
  simp [execOp, ho, resolve, hef, Deferred.ofValue, invoke, run_callFunc h1 h2 h3, ← Array.toList_map]) hdr
 have he : renM [(p, c)] [(p, b')] ++ mem = (c, b') :: mem := by simp [renM, hp]
 rwa [he] at this
theorem at_consE {ev : Operand → TV} {x : Operand} {xs : List Operand} {z : TV} {ys : List (Option TV)} (h : ev x = z) (k : List.map (fun x => some (ev x)) xs = ys) : List.map (fun x => some (ev x)) (x :: xs) = some z :: ys := by
 rw [List.map_cons, h, k]
theorem set_self {α : Type} {l : List α} {i : Nat} {a : α} (h : l[i]? = some a) : l.set i a = l := by
 obtain ⟨h1, h2⟩ := List.getElem?_eq_some_iff.1 h;rw [← h2]; exact List.set_getElem_self h1
end
end Go.Sim
set_option maxRecDepth 10000
namespace Go.Sim
open Go.Proofs
theorem c126E {g : List (Nat × List Value)} {l : List S55} {i : Nat} {a0 : S55} (a1 : Int) (ha : l[i]? = some a0) : ConB (EG g) 39 [.eptr 0 2 i 0, .g (G.int a1)] [(0, .arr 106 2 (l.map S55.c))] (G.tup []) [(0, .arr 106 2 ((l.set i (s126 a0 a1)).map S55.c))] := by
 generalize hR : s126 a0 a1 = R;unfold s126 at hR;have hi : i < l.length := (List.getElem?_eq_some_iff.1 ha).1;refine conB_of_aw Tryz.func39 rfl rfl rfl fun w0 M0 x => ?_;refine aw_cut_g (γ := Int) (fun g => ([(0, .eptr 0 2 i 0), (1, .g (G.int a1))], [(0, .arr 106 2 ((l.set i (S55.mk a0.Flown g)).map S55.c))])) (fun g => s126_j1 a0 a1 g = R) ?_ ?_
 ·refine aw_seq ?_;refine aw_region [.p, .p] ?_;refine sm rfl rfl ?_;refine su (eff_neq rfl rfl rfl) rfl ?_;refine st_nil ?_;refine aw_cond _ rfl (fun h2 => ?_) (fun h2 => ?_)
  ·replace h2 : (decide (a1 ≠ 0)) = true := h2;replace hR := condT hR h2;refine aw_region [.p, .p, .p, .r, .p, .p, .p, .w] ?_;refine su (eff_moveE rfl rfl) rfl ?_;refine su (eff_nilE rfl rfl) rfl ?_;refine su (eff_fieldE rfl fl56_1 rfl) rfl ?_;refine sr (eff_ldE rfl ty3 rfl rfl ha rfl) rfl ?_;refine su (eff_addw rfl rfl rfl) rfl ?_;refine su (eff_nilE rfl rfl) rfl ?_;refine su (eff_fieldE rfl fl56_1 rfl) rfl ?_;refine st_wn rfl rfl (eff_setF (a' := S55.mk a0.Flown (IntKind.i64.wrap (a0.Due + 1))) rfl ty3 rfl rfl rfl ha rfl rfl rfl) ?_;refine st_nil ?_;exact ⟨rfl, IntKind.i64.wrap (a0.Due + 1), ⟨rfl, rfl, trivial⟩, ⟨rfl, trivial⟩, rfl, hR, trivial⟩
  ·replace h2 : (decide (a1 ≠ 0)) = false := h2;replace hR := condF hR h2;refine aw_skip ?_;refine ⟨rfl, a0.Due, ⟨rfl, rfl, trivial⟩, ⟨?_, trivial⟩, rfl, hR, trivial⟩;show some (Blk.arr 106 2 (l.map S55.c)) = some (Blk.arr 106 2 ((l.set i ⟨a0.Flown, a0.Due⟩).map S55.c));rw [set_self ha]
 ·rintro x1 hR;replace hR : s126_j1 a0 a1 x1 = R := hR;unfold s126_j1 at hR;have hb : (l.set i (S55.mk a0.Flown x1))[i]? = some (S55.mk a0.Flown x1) := List.getElem?_set_self hi;refine aw_seq ?_;refine aw_region [.p, .p, .p, .p, .p, .p] ?_;refine sm rfl rfl ?_;refine su (eff_eql rfl rfl rfl) rfl ?_;refine sm rfl rfl ?_;refine sg rfl rfl (fun h => eff_moveg rfl rfl) rfl ?_;refine sg rfl rfl (fun h => eff_eql rfl (gd h rfl) rfl) rfl ?_;refine su (eff_or rfl rfl rfl rfl) rfl ?_;refine st_nil ?_;refine aw_cond _ rfl (fun h1 => ?_) (fun h1 => ?_)
  ·replace h1 : ((decide (a1 = 1)) || (decide (a1 = 2))) = true := h1;replace hR := condT hR h1;refine aw_region [.p, .p, .p, .r, .p, .p, .p, .w] ?_;refine su (eff_moveE rfl rfl) rfl ?_;refine su (eff_nilE rfl rfl) rfl ?_;refine su (eff_fieldE rfl fl56_0 rfl) rfl ?_;refine sr (eff_ldE rfl ty3 rfl rfl hb rfl) rfl ?_;refine su (eff_addw rfl rfl rfl) rfl ?_;refine su (eff_nilE rfl rfl) rfl ?_;refine su (eff_fieldE rfl fl56_0 rfl) rfl ?_;refine st_wn rfl rfl (eff_setF (a' := S55.mk (IntKind.i64.wrap (a0.Flown + 1)) x1) rfl ty3 rfl rfl rfl hb rfl rfl rfl) ?_;refine st_nil ?_;subst hR;show ResOk _ _ _ _ ∧ MemL _ _;have hss : (l.set i (S55.mk a0.Flown x1)).set i (S55.mk (IntKind.i64.wrap (a0.Flown + 1)) x1) = l.set i (S55.mk (IntKind.i64.wrap (a0.Flown + 1)) x1) := List.set_set ..;exact ⟨res0 rfl, ⟨congrArg (fun z : List S55 => some (Blk.arr 106 2 (List.map S55.c z))) hss, trivial⟩⟩
  ·replace h1 : ((decide (a1 = 1)) || (decide (a1 = 2))) = false := h1;replace hR := condF hR h1;refine aw_skip ?_;subst hR;show ResOk _ _ _ _ ∧ MemL _ _;exact ⟨res0 rfl, ⟨rfl, trivial⟩⟩
end Go.Sim
set_option maxRecDepth 10000
namespace Go.Sim
open Go.Proofs
theorem s140_day (d : Int) : 0 ≤ (s140 d).1 ∧ (s140 d).1 < 7 := by
 unfold s140
 by_cases h : s153 d = 0
 ·rw [decide_eq_false (by simpa using h), cond_false]
  have h1 : 0 ≤ d ∧ d ≤ 99999 := by
   unfold s153 s155 s154 at h
   by_cases h1 : d < 0
   ·simp [h1] at h
   ·by_cases h2 : 99999 < d
    ·simp [h2] at h
    ·omega
  show 0 ≤ s188 d ∧ s188 d < 7;unfold s188;rw [wrap_i64 ⟨by omega, by omega⟩, Int.tmod_eq_emod_of_nonneg (by omega)]
  omega
 ·rw [decide_eq_true h, cond_true]; exact ⟨Int.le_refl 0, (by decide : (0 : Int) < 7)⟩
def s72_l2 (a0 : S23) : List S55 → Nat → Int → Int
 | [], _, x => x
 | y :: t, k, x => bif s106 a0 y then s72_l2 a0 t (k + 1) (orI x (shlI 1 ((k : Nat) : Int))) else s72_l2 a0 t (k + 1) x
def s72_l1 (a0 : S23) (a1 : List S151) : List Int → Nat → List S55 → Option (Int × Int)
 | [], _, x => some (s72_l2 a0 x 0 0, 0)
 | y :: t, k, x => bindO (ixO a1 ((k : Nat) : Int)) fun y8 => bindO (ixO x (s140 (y8.Moment / 1440)).1) fun z => s72_l1 a0 a1 t (k + 1) (x.set (s140 (y8.Moment / 1440)).1.toNat (s126 z y))
def s72 (a0 : S23) (a1 : List S151) (a2 : List S104) : Option (Int × Int) :=
 (bif decide ((s122 a0 a1 a2) ≠ 0) then some (0, (s122 a0 a1 a2)) else bindO (s124 a0 a1 a2) fun r1 => s72_l1 a0 a1 r1 0 (List.replicate 7 (S55.mk 0 0)))
theorem und218 : Tryz.prog.underlying 106 = some (.array 7 71) := by kernel_rfl
set_option maxHeartbeats 4000000 in
theorem c72 (a0 : S23) (a1 : List S151) (a2 : List S104) {R : Int × Int} (hb : ¬ s122 a0 a1 a2 ≠ 0 → (a1.length ≤ 1000 ∧ ∀ r, s124 a0 a1 a2 = some r → Con (EG glT) 37 [G.agg [G.int a0.Before, G.int a0.After, G.int a0.Notice, G.int a0.Share, G.sl 1 (List.map cStr a0.Causes), G.int a0.Off, G.int a0.Run], G.sl 3 (List.map S151.c a1), G.sl 8 (List.map S104.c a2)] (G.sl 1 (List.map cInt r))) ∧ ∀ s ∈ a1, 0 ≤ s.Moment ∧ s.Moment ≤ 143999999) (hc1 : a1.length * 40 ≤ 140737488351232) (hc2 : a2.length * 96 ≤ 140737488351232) (hR : s72 a0 a1 a2 = some R) :
  Con (EG glT) 11 [G.agg [G.int a0.Before, G.int a0.After, G.int a0.Notice, G.int a0.Share, G.sl 1 (List.map cStr a0.Causes), G.int a0.Off, G.int a0.Run], G.sl 3 (List.map S151.c a1), G.sl 8 (List.map S104.c a2)] (G.tup [G.int R.1, G.int R.2]) := by
 unfold s72 at hR;refine con_of_aw Tryz.func11 rfl rfl fun w0 M0 => ?_;refine len_sl (f := S151.c) (l := a1) 1 rfl fun hla1 => ?_;refine len_sl (f := S104.c) (l := a2) 2 rfl fun hla2 => ?_;refine aw_seq ?_;refine aw_region [.p, .p, .p] ?_;refine su (eff_box rfl rfl) rfl ?_;refine sa rfl rfl ?_;refine sa rfl rfl ?_;refine st_nil ?_;refine aw_seq ?_;refine aw_seq ?_;refine aw_region [.p, .p, .p, .p, .p] ?_;refine su (eff_loadA rfl ty24 rfl rfl rfl) rfl ?_;refine sm rfl rfl ?_;refine sm rfl rfl ?_;refine su (eff_call rfl K122 rfl (c122 a0 a1 a2 hc1 hc2) (ag_cons rfl (ag_cons rfl (ag_cons rfl ag_nil)))) rfl ?_;refine sa rfl rfl ?_;refine st_nil ?_;refine aw_seq ?_;refine aw_region [.p, .p] ?_;refine sm rfl rfl ?_;refine su (eff_neq rfl rfl rfl) rfl ?_;refine st_nil ?_;refine aw_cond _ rfl (fun h1 => ?_) (fun h1 => ?_)
 ·replace h1 : (decide ((s122 a0 a1 a2) ≠ 0)) = true := h1;replace hR := condT hR h1;refine aw_seq ?_;refine aw_region [.p, .p, .p] ?_;refine sm rfl rfl ?_;refine sa rfl rfl ?_;refine sa rfl rfl ?_;refine st_nil ?_;refine aw_ret ?_;obtain rfl := Option.some.inj hR;exact resN rfl ⟨rv_g rfl, rv_g rfl, trivial⟩ (by simp)
 ·replace h1 : (decide ((s122 a0 a1 a2) ≠ 0)) = false := h1;replace hR := condF hR h1;obtain ⟨⟨hb1, hb2⟩, hmo⟩ := hb (of_decide_eq_false h1);refine aw_skip ?_;refine aw_seq ?_;refine aw_region [.w] ?_;refine sw (eff_allocV (N := 7) (c := [G.int 0, G.int 0]) 9 rfl z218 rfl (by decide) rfl rfl rfl) rfl ?_;refine st_nil ?_;refine aw_seq ?_;refine aw_seq ?_;refine Exists.elim (bindO_inv hR) (fun r1 hq_ => ?_);have br1 := hq_.1;replace hR := hq_.2;clear hq_;refine aw_region [.p, .p, .p, .p, .p, .p] ?_;refine su (eff_loadA rfl ty24 rfl rfl rfl) rfl ?_;refine sm rfl rfl ?_;refine sm rfl rfl ?_;refine su (eff_call rfl K124 rfl (hb2 _ br1) (ag_cons rfl (ag_cons rfl (ag_cons rfl ag_nil)))) rfl ?_;refine su (eff_lenM (f := cInt) (l := r1) rfl Tryz.underlying64 rfl) rfl ?_;refine sm rfl rfl ?_;refine st_nil ?_;refine aw_block ?_;refine aw_loop_g (γ := Nat × (List Int) × (List S55)) (fun g => ([(1, .g (G.sl 3 (List.map S151.c a1))), (3, .g (G.ref [G.int a0.Before, G.int a0.After, G.int a0.Notice, G.int a0.Share, G.sl 1 (List.map cStr a0.Causes), G.int a0.Off, G.int a0.Run])), (9, .eptr 9 2 0 0), (27, .g (G.sl 1 (List.map cInt r1))), (28, .g (G.int (List.length r1 : Int))), (29, .g (G.int ((g.1 : Nat) : Int)))], [(9, .arr 106 2 (List.map S55.c g.2.2))])) (fun g => g.2.2.length = 7 ∧ r1.drop g.1 = g.2.1 ∧ s72_l1 a0 a1 g.2.1 g.1 g.2.2 = some R) (fun g => g.2.1.length) ⟨rfl, (0, r1, List.replicate 7 (S55.mk 0 0)), ⟨rfl, rfl, rfl, rfl, rfl, rfl, trivial⟩, ⟨rfl, trivial⟩, rfl, ⟨rfl, rfl, hR⟩, trivial⟩ ?_
  ·rintro ⟨k4, u6, x3⟩ ⟨hx7, hd, hR⟩;replace hd : r1.drop k4 = u6 := hd;replace hR : s72_l1 a0 a1 u6 k4 x3 = some R := hR;replace hx7 : x3.length = 7 := hx7;refine aw_seq ?_;refine aw_region [.p] ?_;refine su (eff_lss rfl rfl rfl) rfl ?_;refine st_nil ?_;refine len_sl (f := cInt) (l := r1) 27 rfl fun hlz1 => ?_;refine aw_seq ?_;refine aw_cond _ rfl (fun h2 => ?_) (fun h2 => ?_)
   ·replace h2 : (decide (((k4 : Nat) : Int) < (List.length r1 : Int))) = true := h2;refine Exists.elim (drop_cons hd (decT h2)) (fun y5 hq_ => ?_);refine Exists.elim hq_ (fun t6 hqq_ => ?_);have et6 := hqq_.1;have hx1 := hqq_.2.1;replace hd := hqq_.2.2;clear hqq_ hq_;rw [et6] at hR;replace h2 := decT h2;rw [s72_l1] at hR;refine aw_skip ?_;refine aw_seq ?_;refine aw_block ?_;refine aw_seq ?_;refine aw_region [.p, .p, .p, .p, .p] ?_;refine sm rfl rfl ?_;refine su (eff_ix (f := cInt) (l := r1) (a := y5) rfl Tryz.underlying64 ty3 rfl rfl (Int.natCast_nonneg _) hx1) rfl ?_;refine su (eff_load rfl ty3 rfl) rfl ?_;refine sa rfl rfl ?_;refine sa rfl rfl ?_;refine st_nil ?_;refine aw_seq ?_;refine Exists.elim (bindO_inv hR) (fun y8 hq_ => ?_);have by8 := hq_.1;replace hR := hq_.2;clear hq_;refine Exists.elim (bindO_inv hR) (fun z hq_ => ?_);have bz := hq_.1;replace hR := hq_.2;clear hq_;have hm8 := hmo y8 (List.mem_of_getElem? (ixO_get by8));have hw8 := s140_day (y8.Moment / 1440);refine aw_region [.p, .p, .p, .p, .p, .p, .p, .p, .p, .p, .p, .p] ?_;refine sm rfl rfl ?_;refine sm rfl rfl ?_;refine su (eff_ix (f := S151.c) (l := a1) (a := y8) rfl Tryz.underlying39 ty152 rfl rfl (ixO_nn by8) (ixO_get by8)) rfl ?_;refine su (eff_fieldAddr rfl fl152_1 rfl) rfl ?_;refine su (eff_load rfl ty3 rfl) rfl ?_;refine su (eff_quo rfl rfl rfl hm8.1 (by decide) iE) rfl ?_;refine su (eff_call rfl K140 rfl (c140 (y8.Moment / 1440)) (ag_cons rfl ag_nil)) rfl ?_;refine sm rfl rfl ?_;refine su (eff_extract rfl rfl rfl) rfl ?_;refine su (eff_extract rfl rfl rfl) rfl ?_;refine sa rfl rfl ?_;refine sa rfl rfl ?_;refine st_nil ?_;refine aw_region [.p, .p, .p, .w] ?_;refine sm rfl rfl ?_;refine su (eff_indexV rfl und218 ty56 rfl rfl hw8.1 (by omega)) rfl ?_;refine sm rfl rfl ?_;refine sw (eff_callE1 0 9 rfl K126 rfl (c126E y5 (ixO_get bz)) (at_consE rfl (at_cons rfl rfl at_nil)) rfl rfl rfl) rfl ?_;refine st_nil ?_;refine aw_region [.p, .p] ?_;refine su (eff_add rfl rfl rfl iE) rfl ?_;refine sm rfl rfl ?_;refine st_nil ?_;exact ⟨rfl, (k4 + 1, t6, x3.set (s140 (y8.Moment / 1440)).1.toNat (s126 z y5)), ⟨rfl, rfl, rfl, rfl, rfl, rfl, trivial⟩, ⟨rfl, trivial⟩, rfl, ⟨(List.length_set ..).trans hx7, hd, hR⟩, by simp [et6]⟩
   ·replace h2 : (decide (((k4 : Nat) : Int) < (List.length r1 : Int))) = false := h2;have hn_ := drop_nil hd (decF h2);rw [hn_] at hR;rw [s72_l1] at hR;replace hR := Option.some.inj hR;refine aw_exit ?_;refine aw_seq ?_;refine aw_region [.p] ?_;refine sa rfl rfl ?_;refine st_nil ?_;refine aw_seq ?_;refine aw_seq ?_;refine aw_region [.r, .p] ?_;refine sr (eff_loadV rfl ty218 rfl rfl (by rw [List.length_map, hx7])) rfl ?_;refine sm rfl rfl ?_;refine st_nil ?_;refine aw_block ?_;refine aw_loop_g (γ := Nat × (List S55) × Int) (fun g => ([(3, .g (G.ref [G.int a0.Before, G.int a0.After, G.int a0.Notice, G.int a0.Share, G.sl 1 (List.map cStr a0.Causes), G.int a0.Off, G.int a0.Run])), (14, .g (G.int g.2.2)), (49, .g (G.agg (List.map S55.c x3).flatten)), (50, .g (G.int ((g.1 : Nat) : Int)))], [])) (fun g => x3.drop g.1 = g.2.1 ∧ (s72_l2 a0 g.2.1 g.1 g.2.2, (0 : Int)) = R) (fun g => g.2.1.length) ⟨rfl, (0, x3, 0), ⟨rfl, rfl, rfl, rfl, trivial⟩, trivial, rfl, ⟨rfl, hR⟩, trivial⟩ ?_
    ·rintro ⟨k7, u7, x14⟩ ⟨hd, hR⟩;replace hd : x3.drop k7 = u7 := hd;replace hR : (s72_l2 a0 u7 k7 x14, (0 : Int)) = R := hR;refine aw_seq ?_;refine aw_region [.p] ?_;refine su (eff_lss rfl rfl rfl) rfl ?_;refine st_nil ?_;refine aw_seq ?_;refine aw_cond _ rfl (fun h3 => ?_) (fun h3 => ?_)
     ·replace h3 : (decide (((k7 : Nat) : Int) < 7)) = true := h3;have h3' := decT h3;refine Exists.elim (drop_cons hd (by omega)) (fun y7 hq_ => ?_);refine Exists.elim hq_ (fun t7 hqq_ => ?_);have et7 := hqq_.1;have hx2 := hqq_.2.1;replace hd := hqq_.2.2;clear hqq_ hq_;rw [et7] at hR;rw [s72_l2] at hR
      have hgx : (List.map S55.c x3)[(((k7 : Nat) : Int)).toNat]? = some (S55.c y7) := by rw [Int.toNat_natCast, List.getElem?_map, hx2]; rfl
      refine aw_skip ?_;refine aw_seq ?_;refine aw_block ?_;refine aw_seq ?_;refine aw_region [.p, .p, .w, .p, .w] ?_;refine sm rfl rfl ?_
      refine su (eff_indexG (c := S55.c y7) rfl und218 ty56 rfl rfl (Int.natCast_nonneg _) (by omega) (fun c hc => by
       obtain ⟨s, _, rfl⟩ := List.mem_map.1 hc; rfl) hgx) rfl ?_
      refine sw (eff_alloc 16 rfl z56 rfl rfl) rfl ?_;refine sa rfl rfl ?_;refine st_wn rfl rfl (eff_store (tv := .g (G.agg [G.int y7.Flown, G.int y7.Due])) rfl ty56 rfl rfl rfl rfl rfl) ?_;refine st_nil ?_;refine aw_seq ?_;refine aw_region [.p, .r, .p] ?_;refine su (eff_loadA rfl ty24 rfl rfl rfl) rfl ?_;refine sr (eff_loadOA rfl ty56 rfl rfl rfl rfl) rfl ?_;refine su (eff_call rfl K106 rfl (c106 a0 y7) (ag_cons rfl (ag_cons rfl ag_nil))) rfl ?_;refine st_nil ?_;refine aw_cond _ rfl (fun h4 => ?_) (fun h4 => ?_)
      ·replace h4 : s106 a0 y7 = true := h4;rw [h4, cond_true] at hR;refine aw_region [.p, .p, .p, .p, .p] ?_;refine sm rfl rfl ?_;refine sm rfl rfl ?_;refine su (eff_shl rfl rfl rfl (by omega)) rfl ?_;refine su (eff_or2 rfl rfl rfl) rfl ?_;refine sa rfl rfl ?_;refine st_nil ?_;refine aw_region [.p, .p] ?_;refine su (eff_add rfl rfl rfl iE) rfl ?_;refine sm rfl rfl ?_;refine st_nil ?_;exact ⟨rfl, (k7 + 1, t7, orI x14 (shlI 1 ((k7 : Nat) : Int))), ⟨rfl, rfl, rfl, rfl, trivial⟩, trivial, rfl, ⟨hd, hR⟩, by simp [et7]⟩
      ·replace h4 : s106 a0 y7 = false := h4;rw [h4, cond_false] at hR;refine aw_skip ?_;refine aw_region [.p, .p] ?_;refine su (eff_add rfl rfl rfl iE) rfl ?_;refine sm rfl rfl ?_;refine st_nil ?_;exact ⟨rfl, (k7 + 1, t7, x14), ⟨rfl, rfl, rfl, rfl, trivial⟩, trivial, rfl, ⟨hd, hR⟩, by simp [et7]⟩
     ·replace h3 : (decide (((k7 : Nat) : Int) < 7)) = false := h3;have h3' := decF h3;have hn_ := drop_nil hd (by omega);rw [hn_] at hR;rw [s72_l2] at hR;refine aw_exit ?_;refine aw_seq ?_;refine aw_region [.p, .p, .p] ?_;refine sm rfl rfl ?_;refine sa rfl rfl ?_;refine sa rfl rfl ?_;refine st_nil ?_;refine aw_ret ?_;subst hR;exact resN rfl ⟨rv_g rfl, rv_g rfl, trivial⟩ (by simp)
theorem s27_len {l : List S104} (h : s27 l = 0) : l.length ≤ 512 := by
 unfold s27 at h
 by_cases h1 : 512 < l.length
 ·rw [decide_eq_true (by omega)] at h; cases h
 ·omega
theorem bl_irr : ∀ x : List UInt8, Op.bytesLess x x = false
 | [] => rfl
 | a :: x => by simp [Op.bytesLess, bl_irr x]
theorem bl_tr : ∀ x y z : List UInt8, Op.bytesLess x y = true → Op.bytesLess y z = true → Op.bytesLess x z = true
 | _, _, [], _, h => by cases ‹List UInt8› <;> simp [Op.bytesLess] at h
 | _, [], _ :: _, h, _ => by cases ‹List UInt8› <;> simp [Op.bytesLess] at h
 | [], _ :: _, _ :: _, _, _ => rfl
 | a :: x, b :: y, c :: z, h, k => by
  simp only [Op.bytesLess, Bool.or_eq_true, decide_eq_true_eq, Bool.and_eq_true, beq_iff_eq] at h k ⊢
  rcases h with h | ⟨rfl, h⟩
  ·rcases k with k | ⟨rfl, k⟩
   ·exact .inl (UInt8.lt_trans h k)
   ·exact .inl h
  ·rcases k with k | ⟨rfl, k⟩
   ·exact .inl k
   ·exact .inr ⟨rfl, bl_tr x y z h k⟩
theorem bl_tri : ∀ x y : List UInt8, Op.bytesLess x y = false → Op.bytesLess y x = false → x = y
 | [], [], _, _ => rfl
 | [], _ :: _, h, _ => by simp [Op.bytesLess] at h
 | _ :: _, [], _, h => by simp [Op.bytesLess] at h
 | a :: x, b :: y, h, k => by
  simp only [Op.bytesLess, Bool.or_eq_false_iff, decide_eq_false_iff_not, Bool.and_eq_false_iff, beq_eq_false_iff_ne] at h k;have e : a = b := UInt8.le_antisymm (UInt8.not_lt.1 k.1) (UInt8.not_lt.1 h.1);subst e;rw [bl_tri x y (h.2.resolve_left fun g => g rfl) (k.2.resolve_left fun g => g rfl)]
theorem sl_irr (a : ByteArray) : strLt a a = false := bl_irr _
theorem sl_tr {a b c : ByteArray} (h : strLt a b = true) (k : strLt b c = true) : strLt a c = true := bl_tr _ _ _ h k
theorem sl_tri {a b : ByteArray} (h : strLt a b = false) (k : strLt b a = false) : a = b := by
 have := bl_tri _ _ h k;have e := toList_inj (s := a) (s' := b);rw [this] at e
 simpa using e.symm
theorem sl_as {a b : ByteArray} (h : strLt a b = true) (k : strLt b a = true) : False := by
 have := sl_tr h k;rw [sl_irr] at this; cases this
theorem s127_iff (a b : S151) : s127 a b = true ↔ a.Moment < b.Moment ∨ (a.Moment = b.Moment ∧ (strLt a.Name b.Name = true ∨ (a.Name = b.Name ∧ (strLt a.Kind b.Kind = true ∨ a.Kind = b.Kind)))) := by
 unfold s127
 by_cases h : a.Moment = b.Moment
 ·rw [decide_eq_false (by simpa using h), cond_false]
  by_cases g : a.Name = b.Name
  ·simp [h, g, sl_irr]
  ·simp [h, g]
 ·rw [decide_eq_true h, cond_true]
  simp [h]
theorem s127_tot {a b : S151} (h : s127 a b = false) : s127 b a = true := by
 have h' : ¬ s127 a b = true := by rw [h]; decide
 rw [s127_iff] at h' ⊢
 by_cases hm : a.Moment = b.Moment
 ·by_cases hn : a.Name = b.Name
  ·by_cases hk : a.Kind = b.Kind
   ·exact .inr ⟨hm.symm, .inr ⟨hn.symm, .inr hk.symm⟩⟩
   ·refine .inr ⟨hm.symm, .inr ⟨hn.symm, .inl ?_⟩⟩
    cases h1 : strLt b.Kind a.Kind
    ·cases h2 : strLt a.Kind b.Kind
     ·exact absurd (sl_tri h2 h1) hk
     ·exact absurd (.inr ⟨hm, .inr ⟨hn, .inl h2⟩⟩) h'
    ·rfl
  ·refine .inr ⟨hm.symm, .inl ?_⟩
   cases h1 : strLt b.Name a.Name
   ·cases h2 : strLt a.Name b.Name
    ·exact absurd (sl_tri h2 h1) hn
    ·exact absurd (.inr ⟨hm, .inl h2⟩) h'
   ·rfl
 ·left
  have : ¬ a.Moment < b.Moment := fun g => h' (.inl g)
  omega
theorem s127_tr (a b c : S151) (h : s127 a b = true) (k : s127 b c = true) : s127 a c = true := by
 rw [s127_iff] at h k ⊢
 rcases h with h | ⟨h, h2⟩
 ·rcases k with k | ⟨k, _⟩
  ·left; omega
  ·left; omega
 ·rcases k with k | ⟨k, k2⟩
  ·left; omega
  ·refine .inr ⟨h.trans k, ?_⟩
   rcases h2 with h2 | ⟨h2, h3⟩
   ·rcases k2 with k2 | ⟨k2, _⟩
    ·exact .inl (sl_tr h2 k2)
    ·exact .inl (k2 ▸ h2)
   ·rcases k2 with k2 | ⟨k2, k3⟩
    ·exact .inl (h2 ▸ k2)
    ·refine .inr ⟨h2.trans k2, ?_⟩
     rcases h3 with h3 | h3
     ·rcases k3 with k3 | k3
      ·exact .inl (sl_tr h3 k3)
      ·exact .inl (k3 ▸ h3)
     ·rcases k3 with k3 | k3
      ·exact .inl (h3 ▸ k3)
      ·exact .inr (h3.trans k3)
theorem s127_as {a b : S151} (h : s127 a b = true) (k : s127 b a = true) : a = b := by
 rw [s127_iff] at h k
 have hm : a.Moment = b.Moment := by omega
 have h := (h.resolve_left (by omega)).2;have k := (k.resolve_left (by omega)).2
 have hn : a.Name = b.Name := by
  rcases h with h | h
  ·rcases k with k | k
   ·exact (sl_as h k).elim
   ·exact k.1.symm
  ·exact h.1
 have hk : a.Kind = b.Kind := by
  rcases h with h | ⟨_, h | h⟩
  ·rw [hn, sl_irr] at h; cases h
  ·rcases k with k | ⟨_, k | k⟩
   ·rw [hn, sl_irr] at k; cases k
   ·exact (sl_as h k).elim
   ·exact k.symm
  ·exact h
 cases a; cases b
 simp only at hm hn hk;subst hm hn hk
 rfl
theorem s133_eq (a b : ByteArray) : s133 a b = bif strLt a b then -1 else bif decide (a = b) then 0 else 1 := by
 have h : ∀ x, s183 x = false := fun x => by unfold s183; simp
 unfold s133;rw [h, h]
 cases h1 : strLt a b
 ·by_cases h2 : a = b <;> simp [h2]
 ·rfl
theorem s175_lt (a b : S151) : decide (s175 a b < 0) = !(s127 b a) := by
 have h0 : ∀ x, s202 x = false := fun x => by unfold s202; simp
 have hm : s167 a.Moment b.Moment = bif decide (a.Moment < b.Moment) then -1 else bif decide (b.Moment < a.Moment) then 1 else 0 := by
  unfold s167;rw [h0, h0]
  simp
 unfold s175 s176;rw [hm, s133_eq, s133_eq]
 by_cases hlt : a.Moment < b.Moment
 ·have : s127 b a = false := by
   cases hc : s127 b a
   ·rfl
   ·rw [s127_iff] at hc; omega
  rw [this]
  simp [s176_l1, hlt]
 ·by_cases hgt : b.Moment < a.Moment
  ·have : s127 b a = true := by rw [s127_iff]; exact .inl hgt
   rw [this]
   simp [s176_l1, hlt, hgt]
  ·have he : b.Moment = a.Moment := by omega
   simp only [decide_eq_false hlt, decide_eq_false hgt, cond_false]
   cases h1 : strLt a.Name b.Name
   ·by_cases hn : a.Name = b.Name
    ·cases h2 : strLt a.Kind b.Kind
     ·have : s127 b a = true := by
       rw [s127_iff];refine .inr ⟨he, .inr ⟨hn.symm, ?_⟩⟩
       cases h3 : strLt b.Kind a.Kind
       ·exact .inr (sl_tri h3 h2)
       ·exact .inl rfl
      rw [this]
      by_cases hk : a.Kind = b.Kind <;> simp [s176_l1, hn, hk]
     ·have : s127 b a = false := by
       cases hc : s127 b a
       ·rfl
       ·rw [s127_iff] at hc;have hc := (hc.resolve_left (by omega)).2
        rcases hc with hc | ⟨_, hc | hc⟩
        ·rw [hn, sl_irr] at hc; cases hc
        ·exact (sl_as h2 hc).elim
        ·rw [hc, sl_irr] at h2; cases h2
      rw [this]
      simp [s176_l1, hn]
    ·have : s127 b a = true := by
      rw [s127_iff];refine .inr ⟨he, .inl ?_⟩
      cases h3 : strLt b.Name a.Name
      ·exact absurd (sl_tri h1 h3) hn
      ·rfl
     rw [this]
     simp [s176_l1, hn]
   ·have : s127 b a = false := by
     cases hc : s127 b a
     ·rfl
     ·rw [s127_iff] at hc;have hc := (hc.resolve_left (by omega)).2
      rcases hc with hc | ⟨hc, _⟩
      ·exact (sl_as h1 hc).elim
      ·rw [hc, sl_irr] at h1; cases h1
    rw [this]
    simp [s176_l1]
def flyL (l : List S104) : List S151 := isort (fun a b => !(s127 b a)) ((l.filter s172).map s173)
theorem flyL_perm (l : List S104) : (flyL l).Perm ((l.filter s172).map s173) := isort_perm _ _
theorem flyL_sorted (l : List S104) : (flyL l).Pairwise (fun a b => s127 a b = true) := by
 refine isort_sorted s127_tr ?_;refine List.pairwise_of_forall fun y x => ?_;refine ⟨fun h => s127_tot (by simpa using h), fun h => by simpa using h⟩
theorem s121_ok (l : List S104) : s121 l = some (flyL l) := by
 unfold s121;rw [s171_eq, s170_eq, s174_ok (lt := fun a b => !(s127 b a)) (fun y _ x _ => ⟨_, rfl, s175_lt x y⟩)]
 rfl
theorem mget_mset {K V : Type} [DecidableEq K] (m : List (K × V)) (k j : K) (v : V) : mget (mset m k v) j = if k = j then some v else mget m j := by
 induction m with
 | nil => by_cases h : k = j <;> simp [mset, mget, h]
 | cons p m ih =>
  obtain ⟨a, b⟩ := p
  by_cases ha : a = k
  ·subst ha
   by_cases h : a = j <;> simp [mset, mget, h]
  ·by_cases h : a = j
   ·subst h;have hk : ¬ k = a := fun h => ha h.symm
    simp [mset, mget, ha, hk]
   ·simp [mset, mget, ha, h, ih]
theorem mgetD_mset {K V : Type} [DecidableEq K] (m : List (K × V)) (k j : K) (v z : V) : mgetD (mset m k v) j z = if k = j then v else mgetD m j z := by
 unfold mgetD;rw [mget_mset]
 by_cases h : k = j <;> simp [h]
def okI (a0 : S23) (u v : List S151) (i k : Int) : Bool := match u[i.toNat]?, v[k.toNat]? with
 | some a, some b => s142 a0 a b
 | _, _ => false
theorem okI_of {a0 : S23} {u v : List S151} {i k : Int} {a b : S151} (h : u[i.toNat]? = some a) (h' : v[k.toNat]? = some b) : okI a0 u v i k = s142 a0 a b := by unfold okI; rw [h, h']
theorem s115_find (rec1 : Nat → List S154 → List (Int × Bool) → Option (List S154)) (a0 : S23) (u v : List S151) (x : List S154) (m : List (Int × Bool)) (k6 : Nat) (i : Int) (hi : i ∈ idxs u.length) : ∀ (l : List Int) (k : Nat), (∀ j ∈ l, j ∈ idxs v.length) →
  s115_l2 rec1 a0 u v x m k6 i l k = match l.find? (fun j => !(mgetD m j false) && okI a0 u v i j) with
   | some j => rec1 (k6 + 1) (x ++ [⟨i, j⟩]) (mset m j true)
   | none => rec1 (k6 + 1) x m
 | [], k, _ => by rw [s115_l2]; rfl
 | j :: l, k, h => by
  obtain ⟨a, ha, ha'⟩ := ixO_idx hi;obtain ⟨b, hb, hb'⟩ := ixO_idx (h j List.mem_cons_self);have ih := s115_find rec1 a0 u v x m k6 i hi l (k + 1) (fun z hz => h z (List.mem_cons_of_mem _ hz));rw [s115_l2, List.find?_cons, okI_of ha' hb', ha, hb, ih]
  cases hm : mgetD m j false
  ·simp only [Bool.not_false, cond_true, bindO, Bool.true_and]
   cases hs : s142 a0 a b
   ·rfl
   ·rfl
  ·simp only [Bool.not_true, cond_false, bindO, Bool.false_and]
theorem idxs_mem_up {k : Nat} {j : Int} (h : j ∈ idxs k) : j ∈ idxs (k + 1) := by
 rw [idxs_succ]; exact List.mem_append_left _ h
theorem idxs_mem_last (k : Nat) : (k : Int) ∈ idxs (k + 1) := mem_idxs.2 ⟨by omega, by omega⟩
theorem s242_any (f : S104 → Bool) (l : List S104) : s206 l f = l.any f := by
 have key : ∀ (l : List S104) (k : Nat), decide (0 ≤ s242_l1 f l k) = l.any f := by
  intro l
  induction l with
  | nil => intro k; rfl
  | cons y l ih =>
   intro k;rw [s242_l1, List.any_cons]
   cases h : f y
   ·rw [cond_false, ih]; simp
   ·rw [cond_true]; simp
 unfold s206 s242; exact key l 0
theorem gone_eq (a : S23) (s : S151) (l : List S104) : s177 a s l = s128 a s l := by
 unfold s177 s128;rw [s242_any]
 have key : ∀ (l : List S104) (k : Nat), l.any (fun x0 => s207 x0 s (IntKind.i64.wrap (Int.tdiv s.Moment 1440)) a) = s128_l1 a s l k := by
  intro l
  induction l with
  | nil => intro k; rfl
  | cons y l ih =>
   intro k;rw [List.any_cons, s128_l1, ← ih (k + 1)]
   have : s207 y s (IntKind.i64.wrap (Int.tdiv s.Moment 1440)) a = (((decide (y.Kind = (⟨#[98, 97, 99, 107]⟩))) && (s179 y s)) && (decide (IntKind.i64.wrap (y.Told + a.Notice) ≤ IntKind.i64.wrap (Int.tdiv s.Moment 1440)))) := by
    unfold s207 s179 s208
    by_cases h : y.Kind = (⟨#[98, 97, 99, 107]⟩ : ByteArray)
    ·have h2 : ¬ (⟨#[98, 97, 99, 107]⟩ : ByteArray) = ⟨#[119, 101, 97, 116, 104, 101, 114]⟩ := by decide
     rw [h]
     simp [h2, Bool.and_assoc]
    ·simp [h]
   rw [this]
   cases (((decide (y.Kind = (⟨#[98, 97, 99, 107]⟩))) && (s179 y s)) && (decide (IntKind.i64.wrap (y.Told + a.Notice) ≤ IntKind.i64.wrap (Int.tdiv s.Moment 1440)))) <;> simp
 exact key l 0
theorem excused_eq (a : S23) (s : S151) (l : List S104) : s178 a s l = s129 a s l := by
 unfold s178 s129;rw [s242_any]
 have key : ∀ (l : List S104) (k : Nat), l.any (fun x0 => s209 x0 (IntKind.i64.wrap (Int.tdiv s.Moment 1440)) s a) = s129_l1 a s l k := by
  intro l
  induction l with
  | nil => intro k; rfl
  | cons y l ih =>
   intro k;rw [List.any_cons, s129_l1, ← ih (k + 1)]
   have : s209 y (IntKind.i64.wrap (Int.tdiv s.Moment 1440)) s a = ((s179 y s) && ((decide (y.Kind = (⟨#[119, 101, 97, 116, 104, 101, 114]⟩))) || ((decide (y.Kind = (⟨#[99, 97, 110, 99, 101, 108]⟩))) && (s92 a.Causes y.Cause)))) := by
    unfold s209 s179 s208;rw [s88_s92]
    by_cases h : y.Kind = (⟨#[119, 101, 97, 116, 104, 101, 114]⟩ : ByteArray)
    ·simp [h]
    ·by_cases h2 : y.Name = s.Name
     ·simp [h, h2]
     ·simp [h, h2]
   rw [this]
   cases ((s179 y s) && ((decide (y.Kind = (⟨#[119, 101, 97, 116, 104, 101, 114]⟩))) || ((decide (y.Kind = (⟨#[99, 97, 110, 99, 101, 108]⟩))) && (s92 a.Causes y.Cause)))) <;> simp
 exact key l 0
def wk (d : Int) : Int := (d + 5) / 7
def wd (d : Int) : Int := (d + 5) % 7
theorem s180_wd {d : Int} (h : 0 ≤ d ∧ d ≤ 99999) : s180 d = wd d := s180_emod h.1 (by omega)
def bitD (d w : Int) : Int := if wk d = w then (2 ^ (wd d).toNat : Nat) else 0
def mkS : List Int → Int → Int
 | [], _ => 0
 | d :: l, w => bitD d w + mkS l w
def RedP (p : S45) : Prop := s102 p = 0 ∧ p.fTo - p.fFrom ≤ 40
theorem red_series {p : S45} {m : Int} (h : s2005 p m = true) : RedP p ∧ 100 ≤ m ∧ m ≤ 1300 := by
 unfold s2005 at h;simp only [Bool.and_eq_true, decide_eq_true_eq] at h;obtain ⟨⟨⟨h1, h2⟩, h3⟩, h4⟩ := h
 have hp : s102 p = 0 := by rw [period_eq]; exact h1
 have := period_ok p hp;rw [wrap_i64 (by unfold I64; omega)] at h2;exact ⟨⟨hp, h2⟩, h3, h4⟩
theorem red_len {p : S45} (h : RedP p) (M : Int) : (dayL M (p.fTo + 1 - p.fFrom).toNat p.fFrom).length ≤ 41 := by
 have h1 := dayL_len M (p.fTo + 1 - p.fFrom).toNat p.fFrom;have := h.2
 omega
theorem s29_red {p : S45} {m : Int} (nm kd : ByteArray) (h0 : s87 nm = 0) (h1 : s101 kd = 0) (h : RedP p) (hm0 : 100 ≤ m) (hm1 : m ≤ 1300) : s29 nm kd p m = (s103 nm kd p m, 0) := by
 have h2 : s85 m 0 1439 = 0 := by
  unfold s85 s86;rw [decide_eq_false (by omega), decide_eq_false (by omega)]; rfl
 unfold s29;rw [h0, h1, h.1, h2, show s84 [0, 0, 0, 0] = 0 from rfl, decide_eq_false (by decide), cond_false]
 rfl
abbrev n97 : ByteArray := ⟨#[97]⟩
abbrev k68 : ByteArray := ⟨#[68]⟩
theorem s87_97 : s87 n97 = 0 := by decide +kernel
theorem s101_68 : s101 k68 = 0 := by decide +kernel
theorem s103_mom {p : S45} {m : Int} {nm kd : ByteArray} (h : RedP p) (hm0 : 100 ≤ m) (hm1 : m ≤ 1300) : ∀ s ∈ s103 nm kd p m, 0 ≤ s.Moment ∧ s.Moment ≤ 143999999 := by
 intro s hs;unfold s103 slotsL momL at hs;obtain ⟨x, hx, rfl⟩ := List.mem_map.1 hs;obtain ⟨d, hd, rfl⟩ := List.mem_map.1 hx;have := dayL_range _ _ _ d hd;have hp := period_ok p h.1;show 0 ≤ 1440 * d + m ∧ 1440 * d + m ≤ 143999999
 omega
theorem s103_len {p : S45} {m : Int} {nm kd : ByteArray} (h : RedP p) : (s103 nm kd p m).length ≤ 41 := by
 rw [len103]; exact red_len h _
def gm (P : Int → Int → Bool) (ov : List Int) : List Int → List Int → List S154
 | [], _ => []
 | i :: r, T => match ov.find? (fun j => !decide (j ∈ T) && P i j) with
  | some j => ⟨i, j⟩ :: gm P ov r (j :: T)
  | none => gm P ov r T
section
variable {P : Int → Int → Bool} {ov : List Int}
theorem gm_slots : ∀ (a : List Int) (T : List Int), ((gm P ov a T).map S154.Slot).Sublist a
 | [], _ => by simp [gm]
 | i :: a, T => by
  rw [gm]
  cases ov.find? (fun j => !decide (j ∈ T) && P i j) with
  | none => exact (gm_slots a T).cons _
  | some j => exact (gm_slots a (j :: T)).cons_cons _
end
section
variable {C : Type} {A B : Int} {su sv : Int → Int} {cu cv : Int → C} {P : Int → Int → Bool} {ou ov : List Int}
structure Win (A B : Int) (su sv : Int → Int) (cu cv : Int → C) (P : Int → Int → Bool) (ou ov : List Int) : Prop where
 p : ∀ i ∈ ou, ∀ k ∈ ov, P i k = true ↔ cu i = cv k ∧ su i - B ≤ sv k ∧ sv k ≤ su i + A
 u : ou.Pairwise (fun i j => su i ≤ su j)
 un : ou.Nodup
 v : ov.Pairwise (fun i j => sv i ≤ sv j)
end
theorem match_gm (a0 : S23) (u v : List S151) : ∀ (rest : List Int) (k : Nat) (x : List S154) (m : List (Int × Bool)) (T : List Int), (∀ i ∈ rest, i ∈ idxs u.length) → (∀ j, mgetD m j false = decide (j ∈ T)) →
  s115_l1 a0 u v (ordI v) rest k x m = some (x ++ gm (okI a0 u v) (ordI v) rest T)
 | [], k, x, m, T, _, _ => by simp [s115_l1, gm]
 | i :: rest, k, x, m, T, hr, hm => by
  have hr' : ∀ j ∈ rest, j ∈ idxs u.length := fun j hj => hr j (List.mem_cons_of_mem _ hj);rw [s115_l1, s115_find (fun k_ z0_ z1_ => s115_l1 a0 u v (ordI v) rest k_ z0_ z1_) a0 u v x m k i (hr i List.mem_cons_self) (ordI v) 0 (fun j hj => ordI_mem.1 hj), gm]
  have hfun : (fun j => !(mgetD m j false) && okI a0 u v i j) = fun j => !decide (j ∈ T) && okI a0 u v i j := funext fun j => by rw [hm]
  rw [hfun]
  cases (ordI v).find? (fun j => !decide (j ∈ T) && okI a0 u v i j) with
  | none => exact match_gm a0 u v rest (k + 1) x m T hr' hm
  | some j =>
   simp only
   rw [match_gm a0 u v rest (k + 1) _ _ (j :: T) hr' fun z => by
    rw [mgetD_mset, hm]
    by_cases hz : j = z
    ·subst hz; simp
    ·have : ¬ z = j := fun e => hz e.symm
     simp [hz, this]]
   simp
def mat (a0 : S23) (u v : List S151) : List S154 := gm (okI a0 u v) (ordI v) (ordI u) []
theorem s115_eq (a0 : S23) (u v : List S151) : s115 a0 u v = some (mat a0 u v) := by
 unfold s115 mat;rw [s168_ok, s168_ok];simp only [bindO];rw [match_gm a0 u v (ordI u) 0 [] [] [] (fun i hi => ordI_mem.1 hi) (fun j => by simp [mgetD, mget])]
 rfl
theorem mat_slot {a0 : S23} {u v : List S151} {e : S154} (h : e ∈ mat a0 u v) : e.Slot ∈ idxs u.length :=
 ordI_mem.1 ((gm_slots (P := okI a0 u v) (ov := ordI v) (ordI u) []).subset (List.mem_map_of_mem h))
def atF (g : S151 → Bool) : List S151 → Nat → List Int
 | [], _ => []
 | s :: l, k => bif g s then atF g l (k + 1) else (k : Int) :: atF g l (k + 1)
def base (g x : S151 → Bool) (s : S151) : Int := bif g s then 0 else bif x s then 2 else 3
def setF (at_ : List Int) (M : List S154) (cs : List Int) : List Int := M.foldl (fun cs e => match at_[e.Slot.toNat]? with | some p => cs.set p.toNat 1 | none => cs) cs
def stF (a0 : S23) (g x : S151 → Bool) (v a1 : List S151) : List Int := setF (atF g a1 0) (mat a0 (a1.filter (fun s => !g s)) v) (a1.map (base g x))
theorem flown_set (at_ : List Int) (n : Nat) (hat : ∀ p ∈ at_, p ∈ idxs n) : ∀ (l : List S154) (k : Nat) (cs : List Int), cs.length = n → (∀ e ∈ l, e.Slot ∈ idxs at_.length) → s124_l2 at_ l k cs = some (setF at_ l cs)
 | [], k, cs, hn, _ => rfl
 | e :: l, k, cs, hn, hl => by
  obtain ⟨p, hp, hp'⟩ := ixO_idx (hl e List.mem_cons_self);have hpn := hat p (List.mem_of_getElem? hp');obtain ⟨c, h1, _⟩ := ixO_idx (l := cs) (by rw [hn]; exact hpn);rw [s124_l2, hp];simp only [bindO, h1];rw [flown_set at_ n hat l (k + 1) _ (by rw [List.length_set]; exact hn) fun z hz => hl z (List.mem_cons_of_mem _ hz)];unfold setF;rw [List.foldl_cons, hp']
theorem status_set (a0 : S23) (a2 : List S104) (n : Nat) : ∀ (l : List S151) (k : Nat) (due : List S151) (at_ cs : List Int), k = cs.length → k + l.length = n → due.length = at_.length → (∀ p ∈ at_, p ∈ idxs k) →
  s124_l1 a0 a2 l k due at_ (cs ++ List.replicate l.length 0) = some (setF (at_ ++ atF (fun s => s128 a0 s a2) l k) (mat a0 (due ++ l.filter (fun s => !s128 a0 s a2)) (flyL a2)) (cs ++ l.map (base (fun s => s128 a0 s a2) (fun s => s129 a0 s a2))))
 | [], k, due, at_, cs, hk, hn, hd, hp => by
  have hk0 : k = n := by simpa using hn
  rw [s124_l1, s121_ok];simp only [bindO, s115_eq, atF, List.filter_nil, List.append_nil, List.map_nil]
  have := flown_set at_ n (by rw [← hk0]; exact hp) (mat a0 due (flyL a2)) 0 cs (by omega) fun e he => by rw [← hd]; exact mat_slot he
  simpa using this
 | y :: l, k, due, at_, cs, hk, hn, hd, hp => by
  have hix : ∀ v : Int, List.set (cs ++ List.replicate (y :: l).length (0 : Int)) (Int.toNat ((k : Nat) : Int)) v = (cs ++ [v]) ++ List.replicate l.length 0 := fun v => by
   rw [List.length_cons, List.replicate_succ, set_app (by rw [hk]; simp)]
   simp
  have hi : ixO (cs ++ List.replicate (y :: l).length (0 : Int)) ((k : Nat) : Int) = some 0 := by
   rw [List.length_cons, List.replicate_succ]; exact ixO_app' (by rw [hk])
  have hn' : k + 1 + l.length = n := by simp at hn; omega
  have hp1 : ∀ p ∈ at_, p ∈ idxs (k + 1) := fun p h => idxs_mem_up (hp p h)
  have hp2 : ∀ p ∈ at_ ++ [((k : Nat) : Int)], p ∈ idxs (k + 1) := fun p h => by
   rcases List.mem_append.1 h with h | h
   ·exact hp1 p h
   ·rw [List.mem_singleton.1 h]; exact idxs_mem_last k
  rw [s124_l1, gone_eq, excused_eq, hi];simp only [bindO, hix, s124_j1, s124_j2];rw [atF, List.filter_cons, List.map_cons];have hb : base (fun s => s128 a0 s a2) (fun s => s129 a0 s a2) y = bif s128 a0 y a2 then 0 else bif s129 a0 y a2 then 2 else 3 := rfl;rw [hb]
  cases s128 a0 y a2
  ·simp only [cond_false]
   cases s129 a0 y a2
   ·simp only [cond_false];rw [status_set a0 a2 n l (k + 1) (due ++ [y]) (at_ ++ [((k : Nat) : Int)]) (cs ++ [3]) (by simp [hk]) hn' (by simp [hd]) hp2]
    simp
   ·simp only [cond_true];rw [status_set a0 a2 n l (k + 1) (due ++ [y]) (at_ ++ [((k : Nat) : Int)]) (cs ++ [2]) (by simp [hk]) hn' (by simp [hd]) hp2]
    simp
  ·simp only [cond_true];rw [status_set a0 a2 n l (k + 1) due at_ (cs ++ [0]) (by simp [hk]) hn' hd hp1]
   simp
theorem s124_eq (a0 : S23) (a1 : List S151) (a2 : List S104) : s124 a0 a1 a2 = some (stF a0 (fun s => s128 a0 s a2) (fun s => s129 a0 s a2) (flyL a2) a1) := by
 have := status_set a0 a2 a1.length a1 0 [] [] [] rfl (by simp) rfl (by simp)
 simpa [s124, stF] using this
def flownI (at_ : List Int) (M : List S154) : List Nat := M.filterMap (fun e => (at_[e.Slot.toNat]?).map Int.toNat)
theorem setF_len (at_ : List Int) : ∀ (M : List S154) (cs : List Int), (setF at_ M cs).length = cs.length
 | [], _ => rfl
 | e :: M, cs => by
  unfold setF;rw [List.foldl_cons];have := setF_len at_ M (match at_[e.Slot.toNat]? with | some p => cs.set p.toNat 1 | none => cs);unfold setF at this;rw [this]
  cases at_[e.Slot.toNat]? <;> simp
theorem setF_get (at_ : List Int) : ∀ (M : List S154) (cs : List Int) (i : Nat) (c : Int), cs[i]? = some c → (setF at_ M cs)[i]? = some (if i ∈ flownI at_ M then 1 else c)
 | [], cs, i, c, h => by simpa [setF, flownI] using h
 | e :: M, cs, i, c, h => by
  have hs : setF at_ (e :: M) cs = setF at_ M (match at_[e.Slot.toNat]? with | some p => cs.set p.toNat 1 | none => cs) := rfl;rw [hs]
  cases hp : at_[e.Slot.toNat]? with
  | none =>
   simp only
   rw [setF_get at_ M cs i c h]
   simp [flownI, hp]
  | some p =>
   simp only
   have hlt := (List.getElem?_eq_some_iff.1 h).1
   by_cases hi : p.toNat = i
   ·subst hi;rw [setF_get at_ M _ p.toNat 1 (by simp [hlt])]
    simp [flownI, hp]
   ·rw [setF_get at_ M _ i c (by rw [List.getElem?_set_ne hi]; exact h)];have : ¬ i = p.toNat := fun e => hi e.symm
    simp [flownI, hp, this]
theorem stF_len (a0 : S23) (g x : S151 → Bool) (v a1 : List S151) : (stF a0 g x v a1).length = a1.length := by unfold stF; rw [setF_len, List.length_map]
theorem stF_get {a0 : S23} {g x : S151 → Bool} {v a1 : List S151} {i : Nat} {s : S151} (h : a1[i]? = some s) :
  (stF a0 g x v a1)[i]? = some (if i ∈ flownI (atF g a1 0) (mat a0 (a1.filter (fun s => !g s)) v) then 1 else base g x s) := by
 unfold stF;exact setF_get _ _ _ _ _ (by rw [List.getElem?_map, h]; rfl)
theorem s128_any (a0 : S23) (s : S151) (l : List S104) : s128 a0 s l = l.any (fun x => s207 x s (IntKind.i64.wrap (Int.tdiv s.Moment 1440)) a0) := by
 rw [← gone_eq]; unfold s177; rw [s242_any]
theorem s129_any (a0 : S23) (s : S151) (l : List S104) : s129 a0 s l = l.any (fun x => s209 x (IntKind.i64.wrap (Int.tdiv s.Moment 1440)) s a0) := by
 rw [← excused_eq]; unfold s178; rw [s242_any]
theorem any_perm {α : Type} {a b : List α} (h : a.Perm b) (p : α → Bool) : a.any p = b.any p := by
 rw [Bool.eq_iff_iff, List.any_eq_true, List.any_eq_true];exact ⟨fun ⟨x, h1, h2⟩ => ⟨x, h.mem_iff.1 h1, h2⟩, fun ⟨x, h1, h2⟩ => ⟨x, h.mem_iff.2 h1, h2⟩⟩
theorem flyL_eq {a b : List S104} (h : a.Perm b) : flyL a = flyL b :=
 sorted_unique ((flyL_perm a).trans (((h.filter _).map _).trans (flyL_perm b).symm)) (flyL_sorted a) (flyL_sorted b) fun x _ y _ h k => s127_as h k
theorem s124_perm (a0 : S23) (a1 : List S151) {a b : List S104} (h : a.Perm b) : s124 a0 a1 a = s124 a0 a1 b := by
 rw [s124_eq, s124_eq, flyL_eq h]
 have e1 : (fun s => s128 a0 s a) = fun s => s128 a0 s b := funext fun s => by rw [s128_any, s128_any, any_perm h]
 have e2 : (fun s => s129 a0 s a) = fun s => s129 a0 s b := funext fun s => by rw [s129_any, s129_any, any_perm h]
 rw [e1, e2]
theorem flownI_slots (at_ : List Int) (M : List S154) : flownI at_ M = (M.map S154.Slot).filterMap (fun s => (at_[s.toNat]?).map Int.toNat) := by
 unfold flownI;rw [List.filterMap_map]
 rfl
def isF (c : Int) : Bool := decide (c = 1) || decide (c = 2)
def isD (c : Int) : Bool := !decide (c = 0)
theorem s126_eq {x y c : Int} (hx : 0 ≤ x ∧ x ≤ 100000) (hy : 0 ≤ y ∧ y ≤ 100000) : s126 (S55.mk x y) c = S55.mk (bif isF c then x + 1 else x) (bif isD c then y + 1 else y) := by
 have w1 : IntKind.i64.wrap (x + 1) = x + 1 := wrap_i64 ⟨by omega, by omega⟩;have w2 : IntKind.i64.wrap (y + 1) = y + 1 := wrap_i64 ⟨by omega, by omega⟩;unfold s126 isF isD
 by_cases h0 : c = 0
 ·subst h0; simp [s126_j1, w1, w2]
 ·by_cases h1 : c = 1
  ·subst h1; simp [s126_j1, w1, w2]
  ·by_cases h2 : c = 2
   ·subst h2; simp [s126_j1, w1, w2]
   ·simp [s126_j1, w1, w2, h0, h1, h2]
theorem s58_sum : ∀ (l : List Int) (k : Nat) (x y : Int), 0 ≤ x → x + l.length ≤ 100000 → 0 ≤ y → y + l.length ≤ 100000 → s58_l1 l k x y = some (S55.mk (x + (l.countP isF : Nat)) (y + (l.countP isD : Nat)), 0)
 | [], k, x, y, _, _, _, _ => by simp [s58_l1]
 | c :: l, k, x, y, h1, h2, h3, h4 => by
  rw [List.length_cons] at h2 h4;rw [s58_l1, s126_eq ⟨h1, by omega⟩ ⟨h3, by omega⟩, List.countP_cons, List.countP_cons]
  simp only
  rw [s58_sum l (k + 1) _ _ (by cases isF c <;> simp <;> omega) (by cases isF c <;> simp <;> omega) (by cases isD c <;> simp <;> omega) (by cases isD c <;> simp <;> omega)]
  congr 2
  cases isF c <;> cases isD c <;> simp <;> omega
theorem gm_disj {P : Int → Int → Bool} {ov : List Int} : ∀ (r T : List Int), r.Nodup → (∀ i ∈ r, ∀ i' ∈ r, ∀ j ∈ ov, P i j = true → P i' j = true → i = i') → (∀ i ∈ r, ∀ j ∈ T, P i j = false) → ∀ i, i ∈ (gm P ov r T).map S154.Slot ↔ i ∈ r ∧ ov.any (P i) = true
 | [], _, _, _, _, i => by simp [gm]
 | a :: r, T, hn, hd, hT, i => by
  rw [List.nodup_cons] at hn
  have e : (fun j => !decide (j ∈ T) && P a j) = P a := funext fun j => by
   by_cases hj : j ∈ T
   ·rw [hT a List.mem_cons_self j hj]; simp
   ·simp [hj]
  rw [gm, e];have hd' : ∀ i ∈ r, ∀ i' ∈ r, ∀ j ∈ ov, P i j = true → P i' j = true → i = i' := fun i hi i' hi' => hd i (List.mem_cons_of_mem _ hi) i' (List.mem_cons_of_mem _ hi')
  cases hf : ov.find? (P a) with
  | none =>
   rw [gm_disj r T hn.2 hd' (fun i hi => hT i (List.mem_cons_of_mem _ hi)) i]
   constructor
   ·rintro ⟨h1, h2⟩; exact ⟨List.mem_cons_of_mem _ h1, h2⟩
   ·rintro ⟨h1, h2⟩
    rcases List.mem_cons.1 h1 with rfl | h1
    ·obtain ⟨j, hj, hp⟩ := List.any_eq_true.1 h2;exact absurd hp (List.find?_eq_none.1 hf j hj)
    ·exact ⟨h1, h2⟩
  | some j =>
   have hj := List.mem_of_find?_eq_some hf;have hp := List.find?_some hf
   have ih := gm_disj r (j :: T) hn.2 hd' (fun i hi j' hj' => by
    rcases List.mem_cons.1 hj' with rfl | hj'
    ·cases hq : P i j' with
     | false => rfl
     | true =>
      have := hd i (List.mem_cons_of_mem _ hi) a List.mem_cons_self j' hj hq hp;exact absurd (this ▸ hi) hn.1
    ·exact hT i (List.mem_cons_of_mem _ hi) j' hj') i
   rw [List.map_cons, List.mem_cons, ih]
   constructor
   ·rintro (rfl | ⟨h1, h2⟩)
    ·exact ⟨List.mem_cons_self, List.any_eq_true.2 ⟨j, hj, hp⟩⟩
    ·exact ⟨List.mem_cons_of_mem _ h1, h2⟩
   ·rintro ⟨h1, h2⟩
    rcases List.mem_cons.1 h1 with rfl | h1
    ·exact .inl rfl
    ·exact .inr ⟨h1, h2⟩
theorem atF_get {g : S151 → Bool} : ∀ {l : List S151} {off k : Nat} {p : Int}, (atF g l off)[k]? = some p → (l.filter (fun s => !g s))[k]? = l[p.toNat - off]? ∧ (off : Int) ≤ p
 | [], _, _, _, h => by cases h
 | s :: l, off, k, p, h => by
  rw [atF] at h;rw [List.filter_cons]
  cases hg : g s
  ·rw [hg, cond_false] at h;rw [if_pos (by simp)]
   cases k with
   | zero =>
    simp only [List.getElem?_cons_zero, Option.some.injEq] at h;subst h;exact ⟨by simp, Int.le_refl _⟩
   | succ k =>
    rw [List.getElem?_cons_succ] at h ⊢;obtain ⟨h1, h2⟩ := atF_get h;refine ⟨?_, by omega⟩;rw [h1, show p.toNat - off = (p.toNat - (off + 1)) + 1 by omega, List.getElem?_cons_succ]
  ·rw [hg, cond_true] at h;rw [if_neg (by simp)];obtain ⟨h1, h2⟩ := atF_get h;refine ⟨?_, by omega⟩;rw [h1, show p.toNat - off = (p.toNat - (off + 1)) + 1 by omega, List.getElem?_cons_succ]
theorem atF_has {g : S151 → Bool} : ∀ {l : List S151} {off i : Nat} {s : S151}, l[i]? = some s → g s = false → ∃ k : Nat, (atF g l off)[k]? = some ((off + i : Nat) : Int)
 | [], _, _, _, h, _ => by cases h
 | y :: l, off, i, s, h, hg => by
  rw [atF]
  cases i with
  | zero =>
   simp only [List.getElem?_cons_zero, Option.some.injEq] at h;subst h;rw [hg, cond_false];exact ⟨0, rfl⟩
  | succ i =>
   rw [List.getElem?_cons_succ] at h;obtain ⟨k, hk⟩ := atF_has (off := off + 1) h hg
   cases hy : g y
   ·exact ⟨k + 1, by rw [cond_false, List.getElem?_cons_succ, hk]; congr 2; omega⟩
   ·exact ⟨k, by rw [cond_true, hk]; congr 2; omega⟩
def stD (a0 : S23) (g x : S151 → Bool) (v : List S151) (s : S151) : Int := bif g s then 0 else bif v.any (s142 a0 s) then 1 else bif x s then 2 else 3
theorem stF_disj {a0 : S23} {g x : S151 → Bool} {v a1 : List S151} (hd : a1.Pairwise (fun s s' => ∀ b ∈ v, s142 a0 s b = true → s142 a0 s' b = true → False)) : stF a0 g x v a1 = a1.map (stD a0 g x v) := by
 have hu : (a1.filter (fun s => !g s)).Pairwise (fun s s' => ∀ b ∈ v, s142 a0 s b = true → s142 a0 s' b = true → False) := hd.sublist List.filter_sublist
 have hm : ∀ k, k ∈ (mat a0 (a1.filter (fun s => !g s)) v).map S154.Slot ↔ k ∈ ordI (a1.filter (fun s => !g s)) ∧ (ordI v).any (okI a0 (a1.filter (fun s => !g s)) v k) = true := by
  refine gm_disj _ [] (ordI_nodup _) ?_ (fun _ _ j hj => by cases hj);intro i hi i' hi' j hj h1 h2;obtain ⟨hi0, hi1⟩ := mem_idxs.1 (ordI_mem.1 hi);obtain ⟨hi0', hi1'⟩ := mem_idxs.1 (ordI_mem.1 hi');obtain ⟨hj0, hj1⟩ := mem_idxs.1 (ordI_mem.1 hj);rw [okI_of (List.getElem?_eq_getElem hi1) (List.getElem?_eq_getElem hj1)] at h1;rw [okI_of (List.getElem?_eq_getElem hi1') (List.getElem?_eq_getElem hj1)] at h2;rw [List.pairwise_iff_getElem] at hu
  by_cases hlt : i.toNat < i'.toNat
  ·exact (hu _ _ hi1 hi1' hlt _ (List.getElem_mem hj1) h1 h2).elim
  ·by_cases hgt : i'.toNat < i.toNat
   ·exact (hu _ _ hi1' hi1 hgt _ (List.getElem_mem hj1) h2 h1).elim
   ·omega
 apply List.ext_getElem?
 intro i
 cases hs : a1[i]? with
 | none =>
  rw [List.getElem?_map, hs, Option.map_none];rw [List.getElem?_eq_none_iff] at hs ⊢;rw [stF_len]; exact hs
 | some s =>
  rw [stF_get hs, List.getElem?_map, hs, Option.map_some]
  congr 1
  have key : i ∈ flownI (atF g a1 0) (mat a0 (a1.filter (fun s => !g s)) v) ↔ g s = false ∧ v.any (s142 a0 s) = true := by
   rw [flownI_slots, List.mem_filterMap]
   constructor
   ·rintro ⟨k, hk, h1⟩;obtain ⟨hk1, hk2⟩ := (hm k).1 hk
    cases hp : (atF g a1 0)[k.toNat]? with
    | none => rw [hp] at h1; cases h1
    | some p =>
     rw [hp, Option.map_some, Option.some.injEq] at h1;obtain ⟨h2, h3⟩ := atF_get hp;rw [Nat.sub_zero, h1, hs] at h2
     have hg : g s = false := by
      have := List.mem_filter.1 (List.mem_of_getElem? h2)
      simpa using this.2
     refine ⟨hg, ?_⟩;obtain ⟨j, hj, hok⟩ := List.any_eq_true.1 hk2;obtain ⟨hj0, hj1⟩ := mem_idxs.1 (ordI_mem.1 hj);rw [okI_of h2 (List.getElem?_eq_getElem hj1)] at hok;exact List.any_eq_true.2 ⟨_, List.getElem_mem hj1, hok⟩
   ·rintro ⟨hg, h1⟩;obtain ⟨k, hk⟩ := atF_has (off := 0) hs hg;obtain ⟨h2, _⟩ := atF_get hk;rw [Nat.sub_zero, show (((0 + i : Nat) : Int)).toNat = i by omega, hs] at h2;obtain ⟨b, hb, hok⟩ := List.any_eq_true.1 h1;obtain ⟨j, hj⟩ := List.mem_iff_getElem?.1 hb;refine ⟨(k : Int), (hm _).2 ⟨?_, ?_⟩, ?_⟩
    ·exact ordI_mem.2 (mem_idxs.2 ⟨by omega, by have := (List.getElem?_eq_some_iff.1 h2).1; simpa using this⟩)
    ·refine List.any_eq_true.2 ⟨(j : Int), ordI_mem.2 (mem_idxs.2 ⟨by omega, by have := (List.getElem?_eq_some_iff.1 hj).1; simpa using this⟩), ?_⟩;rw [okI_of (a := s) (b := b) (by simpa using h2) (by simpa using hj)];exact hok
    ·rw [show ((k : Int)).toNat = k by omega, hk]
     simp
  unfold stD base
  cases hg : g s
  ·cases hv : v.any (s142 a0 s)
   ·rw [if_neg (by rw [key, hg, hv]; simp)]; rfl
   ·rw [if_pos (by rw [key, hg, hv]; simp)]; rfl
  ·rw [if_neg (by rw [key, hg]; simp)]; rfl
theorem bit_new : ∀ n < 7, ∀ a < 2 ^ n, ∀ k < 7, decide (andI (shrI ((a + 2 ^ n : Nat) : Int) ((k : Nat) : Int)) 1 = 1) = (decide (andI (shrI ((a : Nat) : Int) ((k : Nat) : Int)) 1 = 1) || decide (k = n)) := by decide +kernel
theorem bit_zero : ∀ k < 7, decide (andI (shrI 0 ((k : Nat) : Int)) 1 = 1) = false := by decide +kernel
theorem wd_rng (d : Int) : 0 ≤ wd d ∧ wd d < 7 := by unfold wd; omega
def dq (q : S45) : List Int := dayL q.Days (q.fTo + 1 - q.fFrom).toNat q.fFrom
theorem s102_of {f t m : Int} (h0 : 0 ≤ f) (h1 : f ≤ t) (h2 : t ≤ 99999) (h3 : t - f ≤ 400) (h4 : 1 ≤ m) (h5 : m ≤ 127) : s102 ⟨f, t, m⟩ = 0 := by
 unfold s102 s153 s155 s154
 simp only
 rw [wrap_i64 (n := t - f) ⟨by omega, by omega⟩, decide_eq_false (by omega : ¬ f < 0), decide_eq_false (by omega : ¬ 99999 < f), decide_eq_false (by omega : ¬ t < 0), decide_eq_false (by omega : ¬ 99999 < t), decide_eq_false (by omega : ¬ t < f), decide_eq_false (by omega : ¬ 400 < t - f), decide_eq_false (by omega : ¬ m < 1), decide_eq_false (by omega : ¬ 127 < m)]
 rfl
structure JS (a0 : List Int) (i : Nat) (x10 : List S45) (f t n : Int) : Prop where
 h10 : x10.length ≤ i
 ht : a0[i]? = some t
 hf : f ∈ a0
 le : f ≤ t
 hn : n = wk t - wk f + 1
 h57 : n ≤ 57
 same : ∀ w, wk f ≤ w → w ≤ wk t → mkS a0 w = mkS a0 (wk f)
 ok : ∀ p ∈ x10, s102 p = 0
 flat : x10.flatMap dq ++ dq ⟨f, t, mkS a0 (wk f)⟩ = a0.take (i + 1)
theorem s69_ok {p : S45} (h : s102 p = 0) : s69 p = (s104 p, 0) := by
 have e := s69_days h;unfold s69 at e ⊢;rw [decide_eq_false (by simpa using h), cond_false] at e ⊢;exact Prod.ext e rfl
theorem dayP_eq {p : S45} (h : s102 p = 0) : s104 p = dayP p := days_eq p h
theorem s84_z : ∀ {l : List Int}, (∀ x ∈ l, x = 0) → s84 l = 0 := by
 intro l h
 have key : ∀ (l : List Int) (k : Nat), (∀ x ∈ l, x = 0) → s84_l1 l k = 0 := by
  intro l
  induction l with
  | nil => intro k _; rfl
  | cons y l ih =>
   intro k h;rw [s84_l1, h y List.mem_cons_self]
   simp [ih _ fun x hx => h x (List.mem_cons_of_mem _ hx)]
 exact key l 0 h
theorem s85_ok {a b c : Int} (h : s85 a b c = 0) : b ≤ a ∧ a ≤ c := by
 unfold s85 s86 at h
 by_cases h1 : a < b
 ·simp [h1] at h
 ·by_cases h2 : c < a
  ·simp [h2] at h
  ·omega
theorem s23_tol {a : S23} (h : s23 a = 0) : (0 ≤ a.Before ∧ a.Before ≤ 720) ∧ (0 ≤ a.After ∧ a.After ≤ 720) := by
 unfold s23 at h
 cases hc : decide ((s84 [(s85 a.Before 0 720), (s85 a.After 0 720), (s85 a.Notice 0 365), (s85 a.Share 1 100), (s86 (decide (16 < (List.length a.Causes : Int))) 5)]) ≠ 0)
 ·have h0 : s84 [(s85 a.Before 0 720), (s85 a.After 0 720), (s85 a.Notice 0 365), (s85 a.Share 1 100), (s86 (decide (16 < (List.length a.Causes : Int))) 5)] = 0 := by simpa using hc
  have := s84_all h0;exact ⟨s85_ok (this _ (by simp)), s85_ok (this (s85 a.After 0 720) (by simp))⟩
 ·rw [hc, cond_true] at h;exact absurd h (of_decide_eq_true hc)
theorem s142_iff {a0 : S23} {a b : S151} (hr : s23 a0 = 0) (ha : 0 ≤ a.Moment ∧ a.Moment ≤ 143999999) : s142 a0 a b = true ↔ (b.Name = a.Name ∧ b.Kind = a.Kind) ∧ a.Moment - a0.Before ≤ b.Moment ∧ b.Moment ≤ a.Moment + a0.After := by
 obtain ⟨h1, h2⟩ := s23_tol hr;have w1 : IntKind.i64.wrap (a.Moment - a0.Before) = a.Moment - a0.Before := wrap_i64 ⟨by omega, by omega⟩;have w2 : IntKind.i64.wrap (a.Moment + a0.After) = a.Moment + a0.After := wrap_i64 ⟨by omega, by omega⟩;unfold s142;rw [w1, w2]
 simp [eqAnd, Bool.and_eq_true, and_assoc]
section
variable {K V : Type} [DecidableEq K]
theorem mget_mem : ∀ {m : List (K × V)} {k : K} {v : V}, mget m k = some v → (k, v) ∈ m
 | [], _, _, h => by cases h
 | (a, b) :: r, k, v, h => by
  rw [mget] at h
  by_cases hk : a = k
  ·rw [decide_eq_true hk, cond_true] at h
   cases h; subst hk; exact List.mem_cons_self
  ·rw [decide_eq_false hk, cond_false] at h;exact List.mem_cons_of_mem _ (mget_mem h)
end
def Bd (n : Int) (m : List (ByteArray × S55)) : Prop := ∀ p ∈ m, 0 ≤ p.2.Flown ∧ p.2.Flown ≤ p.2.Due ∧ p.2.Due ≤ n
theorem Bd.get {n : Int} {m : List (ByteArray × S55)} (h : Bd n m) (hn : 0 ≤ n) (k : ByteArray) : 0 ≤ (mgetD m k (S55.mk 0 0)).Flown ∧ (mgetD m k (S55.mk 0 0)).Flown ≤ (mgetD m k (S55.mk 0 0)).Due ∧ (mgetD m k (S55.mk 0 0)).Due ≤ n := by
 unfold mgetD
 cases hg : mget m k with
 | none => exact ⟨by simp, by simp, by simpa using hn⟩
 | some v => exact h _ (mget_mem hg)
theorem s84_zeroA : ∀ {l : List Int}, (∀ x ∈ l, x = 0) → s84 l = 0 := by
 intro l h
 have key : ∀ (l : List Int) (k : Nat), (∀ x ∈ l, x = 0) → s84_l1 l k = 0 := by
  intro l
  induction l with
  | nil => intro k _; rfl
  | cons y l ih =>
   intro k h;rw [s84_l1, decide_eq_false (by simpa using h y List.mem_cons_self), cond_false];exact ih _ fun x hx => h x (List.mem_cons_of_mem _ hx)
 exact key l 0 h
theorem s85_zeroA {a b c : Int} (h : b ≤ a) (h2 : a ≤ c) : s85 a b c = 0 := by
 unfold s85 s86;rw [decide_eq_false (by omega), decide_eq_false (by omega)]
 rfl
def cntS (p : S151 → Bool) : List (S151 × Int) → S55 → S55
 | [], z => z
 | q :: l, z => cntS p l (bif p q.1 then s126 z q.2 else z)
def dayS (w : Nat) (s : S151) : Bool := decide ((s140 (s.Moment / 1440)).1 = (w : Int))
theorem l72_run (a0 : S23) (a1 : List S151) : ∀ (cs : List Int) (k : Nat) (x : List S55), k + cs.length = a1.length → x.length = 7 → ∃ x', s72_l1 a0 a1 cs k x = some (s72_l2 a0 x' 0 0, 0) ∧ x'.length = 7 ∧
  ∀ (w : Nat) (z : S55), x[w]? = some z → x'[w]? = some (cntS (dayS w) ((a1.drop k).zip cs) z)
 | [], k, x, _, hx => ⟨x, by rw [s72_l1], hx, fun w z h => by rw [List.zip_nil_right]; exact h⟩
 | c :: cs, k, x, h, hx => by
  rw [List.length_cons] at h
  have hk : k < a1.length := by omega
  have hi : ixO a1 ((k : Nat) : Int) = some a1[k] := ixO_nat (List.getElem?_eq_getElem hk);have hw := s140_day (a1[k].Moment / 1440)
  have hlt : (s140 (a1[k].Moment / 1440)).1.toNat < x.length := by omega
  obtain ⟨x', g1, g2, g3⟩ := l72_run a0 a1 cs (k + 1) (x.set (s140 (a1[k].Moment / 1440)).1.toNat (s126 x[(s140 (a1[k].Moment / 1440)).1.toNat] c)) (by omega) (by rw [List.length_set]; exact hx);refine ⟨x', ?_, g2, fun w z hz => ?_⟩
  ·rw [s72_l1, hi];simp only [bindO];rw [ixO_in hw.1 hlt];exact g1
  ·rw [List.drop_eq_getElem_cons hk, List.zip_cons_cons, cntS]
   by_cases hd : (s140 (a1[k].Moment / 1440)).1.toNat = w
   ·subst hd;have hzz := (List.getElem?_eq_some_iff.1 hz).2
    have hb : dayS (s140 (a1[k].Moment / 1440)).1.toNat a1[k] = true := by unfold dayS; rw [decide_eq_true_eq]; omega
    rw [hb, cond_true];exact g3 _ _ (by rw [List.getElem?_set_self hlt, hzz])
   ·have hb : dayS w a1[k] = false := by unfold dayS; rw [decide_eq_false_iff_not]; omega
    rw [hb, cond_false];exact g3 w z (by rw [List.getElem?_set_ne hd]; exact hz)
theorem mask_or : ∀ k : Fin 7, ∀ x : Fin 128, x.val < 2 ^ k.val → orI (x.val : Int) (shlI 1 (k.val : Int)) = ((x.val + 2 ^ k.val : Nat) : Int) := by decide +kernel
theorem s140_eq {d : Int} (h : 0 ≤ d ∧ d ≤ 99999) : (s140 d).1 = s180 d := by
 have h0 : s153 d = 0 := by
  unfold s153 s155 s154;rw [decide_eq_false (by omega), decide_eq_false (by omega)]; rfl
 unfold s140;rw [decide_eq_false (by simpa using h0), cond_false]; rfl
def bitB (y : Int) (j : Nat) : Bool := decide (andI (shrI y (j : Int)) 1 = 1)
theorem bit_test : ∀ y < 128, ∀ j < 7, decide (andI (shrI ((y : Nat) : Int) ((j : Nat) : Int)) 1 = 1) = y.testBit j := by decide +kernel
theorem mask_bits (a0 : S23) : ∀ (t : List S55) (k x : Nat), k + t.length = 7 → x < 2 ^ k → ∃ y : Nat, s72_l2 a0 t k (x : Int) = (y : Int) ∧ y < 128 ∧
  ∀ j < 7, bitB (y : Int) j = true ↔ bitB (x : Int) j = true ∨ ∃ (i : Nat) (z : S55), t[i]? = some z ∧ k + i = j ∧ s106 a0 z = true
 | [], k, x, hk, hx => ⟨x, by rw [s72_l2], by
   have : k = 7 := by simpa using hk
   subst this; simpa using hx, fun j _ => by simp⟩
 | z :: t, k, x, hk, hx => by
  rw [List.length_cons] at hk
  have hs : 2 ^ (k + 1) = 2 * 2 ^ k := by rw [Nat.pow_succ, Nat.mul_comm]
  have hp : 2 ^ k ≤ 2 ^ 6 := Nat.pow_le_pow_right (by decide) (by omega);rw [s72_l2]
  cases hb : s106 a0 z
  ·rw [cond_false];obtain ⟨y, h1, h2, h3⟩ := mask_bits a0 t (k + 1) x (by omega) (by omega);refine ⟨y, h1, h2, fun j hj => (h3 j hj).trans (or_congr Iff.rfl ?_)⟩
   constructor
   ·rintro ⟨i, w, g1, g2, g3⟩; exact ⟨i + 1, w, g1, by omega, g3⟩
   ·rintro ⟨i, w, g1, g2, g3⟩
    cases i with
    | zero => rw [List.getElem?_cons_zero, Option.some.injEq] at g1; subst g1; rw [hb] at g3; cases g3
    | succ i => exact ⟨i, w, g1, by omega, g3⟩
  ·rw [cond_true];have hm := mask_or ⟨k, by omega⟩ ⟨x, by omega⟩ hx;simp only at hm;rw [hm];obtain ⟨y, h1, h2, h3⟩ := mask_bits a0 t (k + 1) (x + 2 ^ k) (by omega) (by omega);refine ⟨y, h1, h2, fun j hj => (h3 j hj).trans ?_⟩;have hn : bitB ((x + 2 ^ k : Nat) : Int) j = (bitB (x : Int) j || decide (j = k)) := bit_new k (by omega) x hx j hj;rw [hn, Bool.or_eq_true, decide_eq_true_eq]
   constructor
   ·rintro ((h | h) | ⟨i, w, g1, g2, g3⟩)
    ·exact .inl h
    ·exact .inr ⟨0, z, rfl, by omega, hb⟩
    ·exact .inr ⟨i + 1, w, g1, by omega, g3⟩
   ·rintro (h | ⟨i, w, g1, g2, g3⟩)
    ·exact .inl (.inl h)
    ·cases i with
     | zero => exact .inl (.inr (by omega))
     | succ i => exact .inr ⟨i, w, g1, by omega, g3⟩
def slD (nm kd : ByteArray) (m d : Int) : S151 := ⟨nm, 1440 * d + m, kd⟩
theorem s103_sl (nm kd : ByteArray) (p : S45) (m : Int) : s103 nm kd p m = (dayP p).map (slD nm kd m) := by
 unfold s103 slotsL momL dayP;rw [List.map_map]; rfl
theorem s23_2012 : s23 s2012 = 0 := by decide +kernel
def stW2 (nm kd : ByteArray) (m : Int) (l : List S104) (d : Int) : Int := stD s2012 (fun s => s128 s2012 s l) (fun s => s129 s2012 s l) (flyL l) (slD nm kd m d)
theorem red_status {nm kd : ByteArray} {p : S45} {m : Int} (l : List S104) (hp : s102 p = 0) (hm0 : 100 ≤ m) (hm1 : m ≤ 1300) : s124 s2012 (s103 nm kd p m) l = some ((dayP p).map (stW2 nm kd m l)) := by
 rw [s124_eq, s103_sl, stF_disj, List.map_map]
 ·rfl
 ·rw [List.pairwise_map];have hp := period_ok p hp;refine (dayL_asc p.Days (p.fTo + 1 - p.fFrom).toNat p.fFrom).imp_of_mem fun {d e} hd he hlt b _ h1 h2 => ?_;have r1 := dayL_range _ _ _ d hd;have r2 := dayL_range _ _ _ e he;obtain ⟨_, _, k1⟩ := (s142_iff s23_2012 (a := slD nm kd m d) (b := b) (show 0 ≤ 1440 * d + m ∧ 1440 * d + m ≤ 143999999 by omega)).1 h1;obtain ⟨_, k2, _⟩ := (s142_iff s23_2012 (a := slD nm kd m e) (b := b) (show 0 ≤ 1440 * e + m ∧ 1440 * e + m ≤ 143999999 by omega)).1 h2;replace k1 : b.Moment ≤ 1440 * d + m + 60 := k1;replace k2 : 1440 * e + m - 60 ≤ b.Moment := k2
  omega
theorem red_ok {nm kd : ByteArray} {p : S45} {m : Int} {l : List S104} (h0 : s87 nm = 0) (h1 : s101 kd = 0) (h : RedP p) (hm0 : 100 ≤ m) (hm1 : m ≤ 1300) (hl : s27 l = 0) : s122 s2012 (s103 nm kd p m) l = 0 := by
 have h25 : s25 (s103 nm kd p m) = 0 := by
  have hle := s103_len (m := m) (nm := nm) (kd := kd) h;unfold s25 s93;rw [decide_eq_false (by omega), cond_false, s93_l, List.nil_append];refine s84_z fun x hx => ?_;obtain ⟨s, hs, rfl⟩ := List.mem_map.1 hx;have hmo := s103_mom (nm := nm) (kd := kd) h hm0 hm1 s hs;rw [s103_sl] at hs;obtain ⟨d, hd, rfl⟩ := List.mem_map.1 hs;unfold s94;refine s84_z fun x hx => ?_;simp only [List.mem_cons, List.not_mem_nil, or_false] at hx
  rcases hx with rfl | rfl | rfl
  ·exact h0
  ·exact s85_zeroA hmo.1 hmo.2
  ·exact h1
 unfold s122;rw [s23_2012, h25, hl]; rfl
theorem dayS_sl {nm kd : ByteArray} {m d : Int} (w : Nat) (hd : 0 ≤ d ∧ d ≤ 99999) (hm0 : 100 ≤ m) (hm1 : m ≤ 1300) : dayS w (slD nm kd m d) = decide (wd d = (w : Int)) := by
 have e : (slD nm kd m d).Moment / 1440 = d := by
  show (1440 * d + m) / 1440 = d
  omega
 unfold dayS;rw [e, s140_eq hd, s180_wd hd]
theorem cntS_day {nm kd : ByteArray} {m : Int} (st : Int → Int) (w : Nat) (hm0 : 100 ≤ m) (hm1 : m ≤ 1300) : ∀ (D : List Int) (x y : Int), (∀ d ∈ D, 0 ≤ d ∧ d ≤ 99999) → 0 ≤ x → x + D.length ≤ 1000 → 0 ≤ y → y + D.length ≤ 1000 →
  cntS (dayS w) ((D.map (slD nm kd m)).zip (D.map st)) ⟨x, y⟩ = ⟨x + (D.countP (fun d => decide (wd d = (w : Int)) && isF (st d)) : Nat), y + (D.countP (fun d => decide (wd d = (w : Int)) && isD (st d)) : Nat)⟩
 | [], x, y, _, _, _, _, _ => by simp [cntS]
 | d :: D, x, y, hr, h1, h2, h3, h4 => by
  rw [List.length_cons] at h2 h4;have hr' : ∀ d ∈ D, 0 ≤ d ∧ d ≤ 99999 := fun e he => hr e (List.mem_cons_of_mem _ he);rw [List.map_cons, List.map_cons, List.zip_cons_cons, cntS, dayS_sl w (hr d List.mem_cons_self) hm0 hm1, List.countP_cons, List.countP_cons]
  by_cases hw : wd d = (w : Int)
  ·rw [decide_eq_true hw, cond_true, s126_eq ⟨h1, by omega⟩ ⟨h3, by omega⟩, cntS_day st w hm0 hm1 D _ _ hr' (by cases isF (st d) <;> simp <;> omega) (by cases isF (st d) <;> simp <;> omega) (by cases isD (st d) <;> simp <;> omega) (by cases isD (st d) <;> simp <;> omega)]
   congr 1
   ·cases isF (st d) <;> simp <;> omega
   ·cases isD (st d) <;> simp <;> omega
  ·rw [decide_eq_false hw, cond_false, cntS_day st w hm0 hm1 D _ _ hr' h1 (by omega) h3 (by omega)]
   simp
theorem inM_bit (m d : Int) : inM m d = bitB m (wd d).toNat := by
 have := wd_rng d;unfold inM bitB;rw [show ((wd d).toNat : Int) = (d + 5) % 7 by unfold wd at *; omega]
end Go.Sim
set_option maxRecDepth 10000
namespace Go.Sim
open Go.Proofs
def s2019_j1 (rec1 : Nat → (List S104) → List S104) (k3 : Nat) (x6 : List S104) : List S104 :=
 rec1 (k3 + 1) x6
def s2019_l1 (a0 : ByteArray) (a2 : Int) (a3 : Int) (a4 : Int) : List Int → Nat → (List S104) → List S104
 | [], k3, x1 => x1
 | y4 :: t5, k3, x1 => (bif (s192 a2 (s180 y4)) then s2019_j1 (fun k_ z0_ => s2019_l1 a0 a2 a3 a4 t5 k_ z0_) k3 (x1 ++ [(S104.mk (⟨#[102, 108, 121]⟩) a0 (IntKind.i64.wrap ((IntKind.i64.wrap ((IntKind.i64.wrap (1440 * y4)) + a3)) + a4)) (⟨#[68]⟩) 0 0 ByteArray.empty 0)]) else s2019_j1 (fun k_ z0_ => s2019_l1 a0 a2 a3 a4 t5 k_ z0_) k3 x1)
def s2019 (a0 : ByteArray) (a1 : List Int) (a2 : Int) (a3 : Int) (a4 : Int) : List S104 :=
 s2019_l1 a0 a2 a3 a4 a1 0 []
theorem c2019 {g : List (Nat × List Value)} (a0 : ByteArray) (a1 : List Int) (a2 : Int) (a3 : Int) (a4 : Int)  (hl : a1.length ≤ 41)  : Con (EG g) 19 [G.str a0, G.sl 1 (List.map cInt a1), G.int a2, G.int a3, G.int a4] (G.sl 8 (List.map S104.c (s2019 a0 a1 a2 a3 a4))) := by
 generalize hR : s2019 a0 a1 a2 a3 a4 = R;unfold s2019 at hR;refine con_of_aw Tryz.func19 rfl rfl fun w0 M0 => ?_;refine len_sl (f := cInt) (l := a1) 1 rfl fun hla1 => ?_;refine aw_seq ?_;refine aw_region [.w] ?_;refine sw (eff_nilL 10 35 8 rfl rfl rfl) rfl ?_;refine st_nil ?_;refine aw_seq ?_;refine aw_region [.w] ?_;refine sw (eff_nilL 11 35 8 rfl rfl rfl) rfl ?_;refine st_nil ?_;refine aw_seq ?_;refine aw_seq ?_;refine aw_region [.p, .p, .p] ?_;refine sm rfl rfl ?_;refine su (eff_lenM (f := cInt) (l := a1) rfl Tryz.underlying64 rfl) rfl ?_;refine sm rfl rfl ?_;refine st_nil ?_;refine aw_block ?_;refine aw_loop_g (γ := Nat × (List Int) × (List S104)) (fun g => ([(0, .g (G.str a0)), (2, .g (G.int a2)), (3, .g (G.int a3)), (4, .g (G.int a4)), (11, .osl 11 8 0 (List.length g.2.2)), (14, .g (G.sl 1 (List.map cInt a1))), (15, .g (G.int (List.length a1 : Int))), (16, .g (G.int ((g.1 : Nat) : Int)))], [(11, .arr 35 8 (List.map S104.c g.2.2))])) (fun g => g.2.2.length ≤ g.1 ∧ g.1 ≤ a1.length ∧ g.2.2.length ≤ g.1 ∧ a1.drop g.1 = g.2.1 ∧ s2019_l1 a0 a2 a3 a4 g.2.1 g.1 g.2.2 = R) (fun g => List.length g.2.1) ⟨rfl, (0, a1, []), ⟨rfl, rfl, rfl, rfl, rfl, rfl, rfl, rfl, trivial⟩, ⟨rfl, trivial⟩, rfl, ⟨iH, iH, iH, rfl, hR⟩, trivial⟩ ?_
 ·rintro ⟨k3, t5, x1⟩ ⟨iv1_0, iv1_1, iv1_2, hd, hR⟩;replace hd : a1.drop k3 = t5 := hd;replace hR : s2019_l1 a0 a2 a3 a4 t5 k3 x1 = R := hR;replace iv1_0 : x1.length ≤ k3 := iv1_0;replace iv1_1 : k3 ≤ a1.length := iv1_1;replace iv1_2 : x1.length ≤ k3 := iv1_2;refine aw_seq ?_;refine aw_region [.p] ?_;refine su (eff_lss rfl rfl rfl) rfl ?_;refine st_nil ?_;refine len_sl (f := cInt) (l := a1) 14 rfl fun hlz1 => ?_;refine aw_seq ?_;refine aw_cond _ rfl (fun h1 => ?_) (fun h1 => ?_)
  ·replace h1 : (decide (((k3 : Nat) : Int) < (List.length a1 : Int))) = true := h1;obtain ⟨y4, t5, rfl, hx1, hd⟩ := drop_cons hd (decT h1);replace h1 := decT h1;rw [s2019_l1] at hR;(try dsimp only at hR);refine aw_skip ?_;refine aw_cut_g (γ := (List S104)) (fun g => ([(0, .g (G.str a0)), (2, .g (G.int a2)), (3, .g (G.int a3)), (4, .g (G.int a4)), (11, .osl 11 8 0 (List.length g)), (14, .g (G.sl 1 (List.map cInt a1))), (15, .g (G.int (List.length a1 : Int))), (16, .g (G.int ((k3 : Nat) : Int)))], [(11, .arr 35 8 (List.map S104.c g))])) (fun g => g.length ≤ k3 + 1 ∧ s2019_j1 (fun k_ z0_ => s2019_l1 a0 a2 a3 a4 t5 k_ z0_) k3 g = R) ?_ ?_
   ·refine aw_block ?_;refine aw_seq ?_;refine aw_region [.p, .p, .p] ?_;refine su (eff_ix (f := cInt) (l := a1) (a := y4) rfl Tryz.underlying64 ty3 rfl rfl (Int.natCast_nonneg _) hx1) rfl ?_;refine su (eff_load rfl ty3 rfl) rfl ?_;refine sa rfl rfl ?_;refine st_nil ?_;refine aw_seq ?_;refine aw_region [.p, .p, .p, .p] ?_;refine sm rfl rfl ?_;refine sm rfl rfl ?_;refine su (eff_call rfl K180 rfl (c180 y4) (ag_cons rfl ag_nil)) rfl ?_;refine su (eff_call rfl K192 rfl (c192 a2 (s180 y4) (s180_le _)) (ag_cons rfl (ag_cons rfl ag_nil))) rfl ?_;refine st_nil ?_;refine aw_cond _ rfl (fun h3 => ?_) (fun h3 => ?_)
    ·replace h3 : ((s192 a2 (s180 y4))) = true := h3;replace hR := condT hR h3;(try simp only [bB] at h3);refine aw_region [.p, .p, .p, .p, .p, .p, .p, .p, .p, .p, .k, .p] ?_;refine su (eff_moveO rfl rfl) rfl ?_;refine sm rfl rfl ?_;refine sm rfl rfl ?_;refine su (eff_mulw rfl rfl rfl) rfl ?_;refine sm rfl rfl ?_;refine su (eff_addw rfl rfl rfl) rfl ?_;refine sm rfl rfl ?_;refine su (eff_addw rfl rfl rfl) rfl ?_;refine su (eff_build rfl z105 rfl pl105 (pb_cons rfl (pb_cons rfl (pb_cons rfl (pb_cons rfl pb_nil)))) rfl) rfl ?_;refine su (eff_buildSlice rfl Tryz.underlying24 ty105 z105 rfl (ps_cons rfl ps_nil) rfl (by exact lens rfl) (by decide)) rfl ?_;refine st_k rfl rfl (eff_appL (f := S104.c) (out := x1) (new := [(S104.mk (⟨#[102, 108, 121]⟩) a0 (IntKind.i64.wrap ((IntKind.i64.wrap ((IntKind.i64.wrap (1440 * y4)) + a3)) + a4)) (⟨#[68]⟩) 0 0 ByteArray.empty 0)]) rfl app26 rfl rfl (src_eq rfl (src_sl (by decide) (by simp [S104.c]))) (refsN rfl) (by simp; omega)) rfl ?_;refine su (eff_assignO rfl rfl) rfl ?_;refine st_nil ?_;exact ⟨rfl, x1 ++ [(S104.mk (⟨#[102, 108, 121]⟩) a0 (IntKind.i64.wrap ((IntKind.i64.wrap ((IntKind.i64.wrap (1440 * y4)) + a3)) + a4)) (⟨#[68]⟩) 0 0 ByteArray.empty 0)], ⟨rfl, rfl, rfl, rfl, rfl, rfl, rfl, rfl, trivial⟩, ⟨rfl, trivial⟩, rfl, ⟨iB, hR⟩, trivial⟩
    ·replace h3 : ((s192 a2 (s180 y4))) = false := h3;replace hR := condF hR h3;(try simp only [bB] at h3);refine aw_skip ?_;exact ⟨rfl, x1, ⟨rfl, rfl, rfl, rfl, rfl, rfl, rfl, rfl, trivial⟩, ⟨rfl, trivial⟩, rfl, ⟨iB, hR⟩, trivial⟩
   ·rintro x6 ⟨jv1_0, hR⟩;replace jv1_0 : x6.length ≤ k3 + 1 := jv1_0;replace hR : s2019_j1 (fun k_ z0_ => s2019_l1 a0 a2 a3 a4 t5 k_ z0_) k3 x6 = R := hR;unfold s2019_j1 at hR;refine aw_region [.p, .p] ?_;refine su (eff_add rfl rfl rfl iE) rfl ?_;refine sm rfl rfl ?_;refine st_nil ?_;exact ⟨rfl, (k3 + 1, t5, x6), ⟨rfl, rfl, rfl, rfl, rfl, rfl, rfl, rfl, trivial⟩, ⟨rfl, trivial⟩, rfl, ⟨iB, iB, iB, hd, hR⟩, by simp⟩
  ·replace h1 : (decide (((k3 : Nat) : Int) < (List.length a1 : Int))) = false := h1;obtain rfl := drop_nil hd (decF h1);rw [s2019_l1] at hR;refine aw_exit ?_;refine aw_seq ?_;refine aw_region [.p, .p] ?_;refine su (eff_moveO rfl rfl) rfl ?_;refine su (eff_assignO rfl rfl) rfl ?_;refine st_nil ?_;refine aw_ret ?_;subst hR;exact res_c rfl (rv_viewL rfl rfl)
theorem wd_nn {f t x : Int} (hf : 0 ≤ f) (ht : t ≤ 1000000) (h : ((decide (f ≤ x) && decide (x ≤ t)) == true) = true) : 0 ≤ s188 x := by
 have h1 : f ≤ x ∧ x ≤ t := by simpa using h
 unfold s188;rw [wrap_i64 (by unfold I64; omega)];exact Int.tmod_nonneg 7 (by omega)
end Go.Sim
set_option maxRecDepth 10000
namespace Go.Sim
open Go.Proofs
def s2052 (a0 : S45) (a1 : Int) : Bool :=
 ((decide (a0.fFrom ≤ a1)) && (decide (a1 ≤ a0.fTo))) && (s187 a0.Days (s188 a1))
theorem c2052 {g : List (Nat × List Value)} (a0 : S45) (a1 : Int)  (hf : 0 ≤ a0.fFrom) (ht : a0.fTo ≤ 1000000)  : Con (EG g) 52 [G.agg [G.int a0.fFrom, G.int a0.fTo, G.int a0.Days], G.int a1] (G.bool (s2052 a0 a1)) := by
 generalize hR : s2052 a0 a1 = R;unfold s2052 at hR;refine con_of_aw Tryz.func52 rfl rfl fun w0 M0 => ?_;refine aw_seq ?_;refine aw_region [.p, .p] ?_;refine su (eff_box rfl rfl) rfl ?_;refine sa rfl rfl ?_;refine st_nil ?_;refine aw_seq ?_;refine aw_draw [.p, .p, .p, .p, .p, .p, .p, .p, .p, .p, .p, .p, .p, .p, .p, .p, .p, .p] (by kernel_rfl) ?_;refine sm rfl rfl ?_;refine su (eff_fieldAddr rfl fl46_0 rfl) rfl ?_;refine su (eff_load rfl ty3 rfl) rfl ?_;refine su (eff_geq rfl rfl rfl) rfl ?_;refine sm rfl rfl ?_;refine sg rfl rfl (fun h => eff_moveg rfl rfl) rfl ?_;refine sg rfl rfl (fun h => eff_fieldAddr rfl fl46_1 rfl) rfl ?_;refine sg rfl rfl (fun h => eff_load rfl ty3 (gd h rfl)) rfl ?_;refine sg rfl rfl (fun h => eff_leq rfl (gd h rfl) (gd h rfl)) rfl ?_;refine su (eff_and rfl rfl rfl rfl) rfl ?_;refine sm rfl rfl ?_;refine sg rfl rfl (fun h => eff_fieldAddr rfl fl46_2 rfl) rfl ?_;refine sg rfl rfl (fun h => eff_load rfl ty3 (gd h rfl)) rfl ?_;refine sg rfl rfl (fun h => eff_moveg rfl rfl) rfl ?_;refine sg rfl rfl (fun h => eff_call rfl K188 rfl (c188 a1) (ag_cons (gd h rfl) ag_nil)) rfl ?_;refine sg rfl rfl (fun h => eff_call rfl K187 rfl (c187 a0.Days (s188 a1) (wd_nn hf ht h)) (ag_cons (gd h rfl) (ag_cons (gd h rfl) ag_nil))) rfl ?_;refine su (eff_and rfl rfl rfl rfl) rfl ?_;refine sa rfl rfl ?_;refine st_nil ?_;refine aw_ret ?_;subst hR;exact res_c rfl (rv_g rfl)
def s2051 (a0 : Int) (a1 : S45) : Bool :=
 (s2052 a1 a0)
theorem c2051 {g : List (Nat × List Value)} (a0 : Int) (a1 : S45)  (hf : 0 ≤ a1.fFrom) (ht : a1.fTo ≤ 1000000)  : Con (EG g) 51 [G.int a0, G.ref [G.int a1.fFrom, G.int a1.fTo, G.int a1.Days]] (G.bool (s2051 a0 a1)) := by
 generalize hR : s2051 a0 a1 = R;unfold s2051 at hR;refine con_of_aw Tryz.func51 rfl rfl fun w0 M0 => ?_;refine aw_seq ?_;refine aw_region [.p] ?_;refine sa rfl rfl ?_;refine st_nil ?_;refine aw_seq ?_;refine aw_region [.p, .p, .p, .p] ?_;refine su (eff_loadA rfl ty46 rfl rfl rfl) rfl ?_;refine sm rfl rfl ?_;refine su (eff_call rfl K2052 rfl (c2052 a1 a0 iA iA) (ag_cons rfl (ag_cons rfl ag_nil))) rfl ?_;refine sa rfl rfl ?_;refine st_nil ?_;refine aw_ret ?_;subst hR;exact res_c rfl (rv_g rfl)
end Go.Sim
namespace Go.Proofs
open Go.RowKit Go.Shelf
attribute [local go_sem] Oper.semAt_some
def hasB (f t m d : Int) : Bool := (decide (f ≤ d) && decide (d ≤ t)) && inM m d
theorem has_eq {f t m d : Int} (hf : 0 ≤ f) (ht : t ≤ 1000000) : Sim.s2051 d ⟨f, t, m⟩ = hasB f t m d := by
 unfold Sim.s2051 Sim.s2052 hasB;show ((decide (f ≤ d) && decide (d ≤ t)) && Sim.s187 m (Sim.s188 d)) = _
 by_cases h1 : f ≤ d
 ·by_cases h2 : d ≤ t
  ·congr 1
   unfold Sim.s188 Sim.s187 inM;rw [Sim.wrap_i64 (by unfold Sim.I64; omega), Int.tmod_eq_emod_of_nonneg (by omega)]
  ·simp [h2]
 ·simp [h1]
theorem glOk_nil0 {w : World} {M : Nat → Prop} : Sim.GlOk (Sim.EG []) w M := fun g vs h => by cases h
theorem meet1_any (f t m d : Int) (hf : 0 ≤ f) (ht : t ≤ 1000000) (w : World) (b o : Nat) (c0 : w.cell? ⟨b, o, none⟩ = some (.int .i64 f)) (c1 : w.cell? ⟨b, o + 1, none⟩ = some (.int .i64 t)) (c2 : w.cell? ⟨b, o + 2, none⟩ = some (.int .i64 m)) :
  Calls Tryz.prog 51 #[.int .i64 d, .pointer (some ⟨b, o, none⟩)] w fun e w' => e = .returned (.bool (hasB f t m d)) ∧ Below w.heap.size w w' := by
 refine (Sim.c2051 (g := []) d ⟨f, t, m⟩ hf ht w (fun _ => False) [.int .i64 d, .pointer (some ⟨b, o, none⟩)] (fun _ h => h.elim) glOk_nil0 ⟨rfl, ⟨b, o, rfl, .inr (fun h => h), ⟨_, c0, rfl, rfl⟩, ⟨_, c1, rfl, rfl⟩, ⟨_, c2, rfl, rfl⟩, trivial⟩, trivial⟩).mono ?_;rintro e w' ⟨v, rfl, h1, h2⟩;have h2 : v = _ := h2;rw [has_eq hf ht] at h2;exact ⟨by rw [h2], h1⟩
theorem below_grown {w w' : World} (h : Below w.heap.size w w') : w.grownBy w' none := ⟨h.os, h.tape, h.output, h.size, fun k hk _ => h.block k hk⟩
theorem meet1_T {f t m d : Int} (hq : hasB f t m d = true) (hf : 0 ≤ f) (ht : t ≤ 1000000) (w : World) {b o : Nat} (c0 : w.cell? ⟨b, o, none⟩ = some (.int .i64 f)) (c1 : w.cell? ⟨b, o + 1, none⟩ = some (.int .i64 t)) (c2 : w.cell? ⟨b, o + 2, none⟩ = some (.int .i64 m)) :
  Calls Tryz.prog 51 #[.int .i64 d, .pointer (some ⟨b, o, none⟩)] w fun e w' => e = .returned (.bool true) ∧ Below w.heap.size w w' :=
 (meet1_any f t m d hf ht w b o c0 c1 c2).mono fun _ _ ⟨h, k⟩ => ⟨by rw [h, hq], k⟩
theorem meet1_F {f t m d : Int} (hq : hasB f t m d = false) (hf : 0 ≤ f) (ht : t ≤ 1000000) (w : World) {b o : Nat} (c0 : w.cell? ⟨b, o, none⟩ = some (.int .i64 f)) (c1 : w.cell? ⟨b, o + 1, none⟩ = some (.int .i64 t)) (c2 : w.cell? ⟨b, o + 2, none⟩ = some (.int .i64 m)) :
  Calls Tryz.prog 51 #[.int .i64 d, .pointer (some ⟨b, o, none⟩)] w fun e w' => e = .returned (.bool false) ∧ Below w.heap.size w w' :=
 (meet1_any f t m d hf ht w b o c0 c1 c2).mono fun _ _ ⟨h, k⟩ => ⟨by rw [h, hq], k⟩
set_option maxRecDepth 100000 in
set_option maxHeartbeats 2000000 in
theorem collected_meet (b o : Nat) (f t m : Int) (hf : 0 ≤ f) (ht : t ≤ 1000000) (b2 o2 : Nat) (f2 t2 m2 : Int) (hf2 : 0 ≤ f2) (ht2 : t2 ≤ 1000000) (w : World) (hb : b < w.heap.size) (hb2 : b2 < w.heap.size) (d0 : w.cell? ⟨b2, o2, none⟩ = some (.int .i64 f2)) (d1 : w.cell? ⟨b2, o2 + 1, none⟩ = some (.int .i64 t2)) (d2 : w.cell? ⟨b2, o2 + 2, none⟩ = some (.int .i64 m2)) (c0 : w.cell? ⟨b, o, none⟩ = some (.int .i64 f)) (c1 : w.cell? ⟨b, o + 1, none⟩ = some (.int .i64 t)) (c2 : w.cell? ⟨b, o + 2, none⟩ = some (.int .i64 m)) :
  CallsIn Fence.wide 4 Tryz.prog 46 #[.func (.func 92) #[] #[.pointer (some ⟨b, o, none⟩)], .func (.func 51) #[] #[.pointer (some ⟨b2, o2, none⟩)]] w fun e W' => ∃ v, e = .returned v ∧ W'.ownsRow (w.heap.size + 1) 3 1 v ((dayL m (t + 1 - f).toNat f).filter (hasB f2 t2 m2)).length (((dayL m (t + 1 - f).toNat f).filter (hasB f2 t2 m2)).map (Value.int .i64)) ∧ Below w.heap.size w W' := by
 obtain ⟨i0, hi, hz0, hz1, hz2⟩ := info_parts info3;have hlen := dayL_len m (t + 1 - f).toNat f
 have hlen2 : (t + 1 - f).toNat ≤ 1000001 := by omega
 refine callsIn_of_wp_marks Tryz.func46 rfl trivial ?_ rfl;simp only [Tryz.ntmps46, List.size_toArray, List.length_cons, List.length_nil, Nat.reduceAdd, Nat.reduceSub, Array.replicate_succ, Array.replicate_zero, List.push_toArray, List.append_toArray, List.nil_append, List.cons_append]
 gi_wp2
 have bO := Boxed.new (w.alloc (.cells #[.func (.func 51) #[] #[.pointer (some ⟨b2, o2, none⟩)]] 121)) 64 (.slice none 0 0);rw [World.size_alloc] at bO;have bF := (Boxed.new w 121 (.func (.func 51) #[] #[.pointer (some ⟨b2, o2, none⟩)])).cell;have hB00 : Below w.heap.size w (w.alloc (.cells #[.func (.func 51) #[] #[.pointer (some ⟨b2, o2, none⟩)]] 121)) := (Below.refl _ w).alloc (Nat.le_refl _) _;have hB0 : Below (w.heap.size + 1) (w.alloc (.cells #[.func (.func 51) #[] #[.pointer (some ⟨b2, o2, none⟩)]] 121)) ((w.alloc (.cells #[.func (.func 51) #[] #[.pointer (some ⟨b2, o2, none⟩)]] 121)).alloc (.cells #[.slice none 0 0] 64)) := (Below.refl _ _).alloc (by simp) _;have hB1 : Below w.heap.size w ((w.alloc (.cells #[.func (.func 51) #[] #[.pointer (some ⟨b2, o2, none⟩)]] 121)).alloc (.cells #[.slice none 0 0] 64)) := hB00.trans (hB0.mono (by omega));refine wpIn_rangeFunc_ownG rfl (by decide) (gf := 92) (lb := #[.pointer (some ⟨b, o, none⟩)]) rfl trivial (enters_of Tryz.func92 (by kernel_rfl) rfl)
  (days_stops 3 (by decide) b o (w.heap.size + 1) f t m hf ht _ (by omega) (by simp) ((hB1.cell (p := ⟨b, o, none⟩) hb).trans c0) ((hB1.cell (p := ⟨b, o + 1, none⟩) hb).trans c1) ((hB1.cell (p := ⟨b, o + 2, none⟩) hb).trans c2)) belowK_t (belowK_b (by simp)) (Below.refl _ _) (fun _ => rfl)
  (fun pre W => (∃ v, Boxed W (w.heap.size + 1) 64 v ∧ W.ownsRow (w.heap.size + 1) 3 1 v (pre.filter (hasB f2 t2 m2)).length ((pre.filter (hasB f2 t2 m2)).map (Value.int .i64)) ∧ True) ∧ Below (w.heap.size + 1) (w.alloc (.cells #[.func (.func 51) #[] #[.pointer (some ⟨b2, o2, none⟩)]] 121)) W)
  (fun _ _ _ => False)
  (OwnFrom.and (Own.from (holdsRow_own (w.heap.size + 1) (w.heap.size + 1) 64 3 1 (fun pre : List Int => (pre.filter (hasB f2 t2 m2)).length) (fun pre => (pre.filter (hasB f2 t2 m2)).map (Value.int .i64)) (fun _ _ => True)) _) (ownFrom_below (by simp) (by simp)))
  (fun _ _ _ _ _ hs _ _ => hs)
  ⟨⟨_, bO, World.ownsRow_nil _ _ _ _, trivial⟩, hB0⟩
  (fun x => { tmps := #[Value.func (Fn.func 92) #[] #[Value.pointer (some { block := b, off := o })],
     Value.func (Fn.func 51) #[] #[Value.pointer (some { block := b2, off := o2 })], undef, Value.pointer (some { block := w.heap.size, off := 0 }),
     Value.slice none 0 0, Value.pointer (some { block := w.heap.size + 1, off := 0 }), .int .i64 x,
     Value.func (Fn.func 92) #[] #[Value.pointer (some { block := b, off := o })], .int .i64 x, undef, undef, undef,
     undef, undef, undef, undef, undef], defers := [] }) ?assign ?body ?done ?stop
 case assign =>
  intro l x W K hK
  gi_wp2
  exact hK
 case body =>
  rintro l pre x W ⟨⟨v, hv, hrow, hnil⟩, hB⟩ hlt;have hc := hv.cell
  have hSz : w.heap.size + 1 ≤ W.heap.size := by have := hB.size; simpa using this
  have g0 : W.cell? ⟨b2, o2, none⟩ = some (.int .i64 f2) := (hB.cell (p := ⟨b2, o2, none⟩) (by show b2 < w.heap.size + 1; omega)).trans ((hB00.cell (p := ⟨b2, o2, none⟩) hb2).trans d0);have g1 : W.cell? ⟨b2, o2 + 1, none⟩ = some (.int .i64 t2) := (hB.cell (p := ⟨b2, o2 + 1, none⟩) (by show b2 < w.heap.size + 1; omega)).trans ((hB00.cell (p := ⟨b2, o2 + 1, none⟩) hb2).trans d1);have g2 : W.cell? ⟨b2, o2 + 2, none⟩ = some (.int .i64 m2) := (hB.cell (p := ⟨b2, o2 + 2, none⟩) (by show b2 < w.heap.size + 1; omega)).trans ((hB00.cell (p := ⟨b2, o2 + 2, none⟩) hb2).trans d2);have hfc : W.cell? ⟨w.heap.size, 0, none⟩ = some (.func (.func 51) #[] #[.pointer (some ⟨b2, o2, none⟩)]) := (hB.cell (p := ⟨w.heap.size, 0, none⟩) (by simp)).trans bF
  by_cases hq : hasB f2 t2 m2 x = true
  ·gi_wp2_with (first | (gi_at_call 51; refine (CallsIn.inRound l (callsIn_wide.2 (meet1_T hq hf2 ht2 _ g0 g1 g2))).mono ?_; rintro e w1 ⟨rfl, hK1⟩; have hG1 := below_grown hK1; have hv := hv.kept hG1 (by simp); have hrow := hrow.kept hG1 (Classical.em _); have hB := hB.trans (hK1.mono (by first | exact hSz | (simp; omega))); have hc := hv.cell) | (refine ⟨trivial, ?_⟩; gi_at_call 51; refine (CallsIn.inRound l (callsIn_wide.2 (meet1_T hq hf2 ht2 _ g0 g1 g2))).mono ?_; rintro e w1 ⟨rfl, hK1⟩; have hG1 := below_grown hK1; have hv := hv.kept hG1 (by simp); have hrow := hrow.kept hG1 (Classical.em _); have hB := hB.trans (hK1.mono (by first | exact hSz | (simp; omega))); have hc := hv.cell) | (refine ⟨fun h => (by cases h), ?_⟩; gi_at_call 51; refine (CallsIn.inRound l (callsIn_wide.2 (meet1_T hq hf2 ht2 _ g0 g1 g2))).mono ?_; rintro e w1 ⟨rfl, hK1⟩; have hG1 := below_grown hK1; have hv := hv.kept hG1 (by simp); have hrow := hrow.kept hG1 (Classical.em _); have hB := hB.trans (hK1.mono (by first | exact hSz | (simp; omega))); have hc := hv.cell) | (gi_at_builtin; refine wpListIn_append_own _ rfl _ _ 64 rfl (w.heap.size + 1) 3 i0 (.int .i64 0) 1 8 Tryz.underlying64 hi hz0 hz1 hz2 rfl (by decide) _ _ _ rfl (hrow.alloc _) ⟨_, 0, none⟩ 1 1 [.int .i64 x] rfl rfl (cell_one_new _ _ _) (by simp [Value.oneCell']) (by have := List.length_filter_le (hasB f2 t2 m2) pre; unfold maxLen; omega) (by have := List.length_filter_le (hasB f2 t2 m2) pre; omega) (by have := hB.size; simp at this ⊢; omega) ?_; intro v' w1 hown' hgrow _; obtain ⟨g', cap', rfl⟩ := ownsRow_succ hown'; obtain ⟨hv1, hv2, hr2, hk2, hb2⟩ := hv.appended (by decide) hrow (by have := hB.size; simp at this ⊢; omega) (Nat.le_refl _) hown' hgrow; have hc1 := hv1.cell; have hf1 := hv1.frozen))
   exact ⟨((KeepsOthers.of_grownBy hG1 (fun j o ej _ => by cases ej)).trans hk2).from _, (hK1.mono (by first | exact hSz | (simp; omega))).trans hb2, ⟨_, hv2, by simpa [List.filter_append, hq] using hr2, trivial⟩, hB.trans hb2⟩
  ·have hq : hasB f2 t2 m2 x = false := by simpa using hq
   gi_wp2_with (first | (gi_at_call 51; refine (CallsIn.inRound l (callsIn_wide.2 (meet1_F hq hf2 ht2 _ g0 g1 g2))).mono ?_; rintro e w1 ⟨rfl, hK1⟩; have hG1 := below_grown hK1; have hv := hv.kept hG1 (by simp); have hrow := hrow.kept hG1 (Classical.em _); have hB := hB.trans (hK1.mono (by first | exact hSz | (simp; omega))); have hc := hv.cell) | (refine ⟨trivial, ?_⟩; gi_at_call 51; refine (CallsIn.inRound l (callsIn_wide.2 (meet1_F hq hf2 ht2 _ g0 g1 g2))).mono ?_; rintro e w1 ⟨rfl, hK1⟩; have hG1 := below_grown hK1; have hv := hv.kept hG1 (by simp); have hrow := hrow.kept hG1 (Classical.em _); have hB := hB.trans (hK1.mono (by first | exact hSz | (simp; omega))); have hc := hv.cell) | (refine ⟨fun h => (by cases h), ?_⟩; gi_at_call 51; refine (CallsIn.inRound l (callsIn_wide.2 (meet1_F hq hf2 ht2 _ g0 g1 g2))).mono ?_; rintro e w1 ⟨rfl, hK1⟩; have hG1 := below_grown hK1; have hv := hv.kept hG1 (by simp); have hrow := hrow.kept hG1 (Classical.em _); have hB := hB.trans (hK1.mono (by first | exact hSz | (simp; omega))); have hc := hv.cell))
   exact ⟨(KeepsOthers.of_grownBy hG1 (fun j o ej _ => by cases ej)).from _, hK1.mono (by first | exact hSz | (simp; omega)), ⟨_, hv, by simpa [List.filter_append, hq] using hrow, trivial⟩, hB⟩
 case done =>
  rintro D ys W hD rfl ⟨⟨v, hv, hrow, hnil⟩, hB⟩ hK;have hc := hv.cell
  gi_wp2
  refine ⟨by simp, .inl ⟨_, _, rfl, run_takeDeferred hK, ?_⟩⟩;exact ⟨_, results_tmp rfl _ _ _, v, rfl, ownsRow_putObj hrow _ hK rfl, hB00.trans ((hB.mono (by omega)).trans (belowK_b (w := w) (Nat.le_refl _) W D _ _ (by simp at hD; omega) hK rfl rfl))⟩
 case stop =>
  rintro D c pre W _ _ h _;exact h.elim
end Go.Proofs
namespace Go.Sim
open Go.Proofs
open Go.RowKit
theorem c135M {g : List (Nat × List Value)} (f t m f2 t2 m2 : Int) (hf : 0 ≤ f) (ht : t ≤ 1000000) (hf2 : 0 ≤ f2) (ht2 : t2 ≤ 1000000) : Con (EG g) 46 [G.fn (.func 92) [] [G.ref [G.int f, G.int t, G.int m]], G.fn (.func 51) [] [G.ref [G.int f2, G.int t2, G.int m2]]] (G.slX 1 (List.map cInt ((dayL m (t + 1 - f).toNat f).filter (hasB f2 t2 m2)))) := by
 intro w M vs hM hgl hv
 match vs, hv with
 | [v1, v2], hv =>
  obtain ⟨⟨fs, cs, rfl, hfs, hcs⟩, ⟨fs2, cs2, rfl, hfs2, hcs2⟩, _⟩ := hv
  cases fs with
  | cons _ _ => exact hfs.elim
  | nil =>
   cases fs2 with
   | cons _ _ => exact hfs2.elim
   | nil =>
    match cs, hcs, cs2, hcs2 with
    | [c], hcs, [k], hks =>
     obtain ⟨b, o, rfl, hnm, hc⟩ := hcs.1;obtain ⟨b2, o2, rfl, hnm2, hk⟩ := hks.1;obtain ⟨⟨_, e1, e1', _⟩, ⟨_, e2, e2', _⟩, ⟨_, e3, e3', _⟩, _⟩ := hc;have e1' : _ = _ := e1'; have e2' : _ = _ := e2'; have e3' : _ = _ := e3';subst e1'; subst e2'; subst e3';obtain ⟨⟨_, g1, g1', _⟩, ⟨_, g2, g2', _⟩, ⟨_, g3, g3', _⟩, _⟩ := hk;have g1' : _ = _ := g1'; have g2' : _ = _ := g2'; have g3' : _ = _ := g3';subst g1'; subst g2'; subst g3';have hb : b < w.heap.size := block_lt_of_cell e1;have hb2 : b2 < w.heap.size := block_lt_of_cell g1;refine (callsIn_wide.1 (collected_meet b o f t m hf ht b2 o2 f2 t2 m2 hf2 ht2 w hb hb2 g1 g2 g3 e1 e2 e3)).mono ?_;rintro e W' ⟨v, rfl, h1, h3⟩;exact ⟨v, rfl, h3, slX_row hM (Nat.le_succ _) h1⟩
theorem meet_ok {a0 a1 : S45} (h : ¬ s152 [s102 a0, s102 a1] ≠ 0) : (0 ≤ a0.fFrom ∧ a0.fFrom ≤ a0.fTo ∧ a0.fTo ≤ 99999 ∧ a0.fTo - a0.fFrom ≤ 400 ∧ 1 ≤ a0.Days ∧ a0.Days ≤ 127) ∧ (0 ≤ a1.fFrom ∧ a1.fFrom ≤ a1.fTo ∧ a1.fTo ≤ 99999 ∧ a1.fTo - a1.fFrom ≤ 400 ∧ 1 ≤ a1.Days ∧ a1.Days ≤ 127) := by
 obtain ⟨h1, h2⟩ := first2 _ _ (Decidable.not_not.1 h);exact ⟨period_ok _ h1, period_ok _ h2⟩
end Go.Sim
set_option maxRecDepth 10000
namespace Go.Sim
open Go.Proofs
def s2021 (a0 : S45) (a1 : S45) : (List Int) × Int :=
 (bif decide ((s152 [(s102 a0), (s102 a1)]) ≠ 0) then ([], (s152 [(s102 a0), (s102 a1)])) else ((dayL a0.Days (a0.fTo + 1 - a0.fFrom).toNat a0.fFrom).filter (hasB a1.fFrom a1.fTo a1.Days), 0))
theorem c2021 {g : List (Nat × List Value)} (a0 : S45) (a1 : S45)    : Con (EG g) 21 [G.agg [G.int a0.fFrom, G.int a0.fTo, G.int a0.Days], G.agg [G.int a1.fFrom, G.int a1.fTo, G.int a1.Days]] (G.tup [G.slX 1 (List.map cInt ((s2021 a0 a1)).1), G.int ((s2021 a0 a1)).2]) := by
 generalize hR : s2021 a0 a1 = R;unfold s2021 at hR;refine con_of_aw Tryz.func21 rfl rfl fun w0 M0 => ?_;refine aw_seq ?_;refine aw_region [.p, .p, .p, .p] ?_;refine su (eff_box rfl rfl) rfl ?_;refine su (eff_box rfl rfl) rfl ?_;refine sa rfl rfl ?_;refine sa rfl rfl ?_;refine st_nil ?_;refine aw_seq ?_;refine aw_seq ?_;refine aw_draw [.p, .p, .p, .p, .p, .p, .p] (by kernel_rfl) ?_;refine su (eff_loadA rfl ty46 rfl rfl rfl) rfl ?_;refine su (eff_call rfl K102 rfl (c102 a0) (ag_cons rfl ag_nil)) rfl ?_;refine su (eff_loadA rfl ty46 rfl rfl rfl) rfl ?_;refine su (eff_call rfl K102 rfl (c102 a1) (ag_cons rfl ag_nil)) rfl ?_;refine su (eff_buildSlice rfl Tryz.underlying156 ty37 z37 rfl (ps_cons rfl (ps_cons rfl ps_nil)) rfl (by simp []) (by decide)) rfl ?_;refine su (eff_call rfl K152 rfl (c152 [(s102 a0), (s102 a1)]) (ag_cons rfl ag_nil)) rfl ?_;refine sa rfl rfl ?_;refine st_nil ?_;refine aw_seq ?_;refine aw_region [.p, .p] ?_;refine sm rfl rfl ?_;refine su (eff_neq rfl rfl rfl) rfl ?_;refine st_nil ?_;refine aw_cond _ rfl (fun h1 => ?_) (fun h1 => ?_)
 ·replace h1 : (decide ((s152 [(s102 a0), (s102 a1)]) ≠ 0)) = true := h1;replace hR := condT hR h1;(try simp only [bB] at h1);refine aw_seq ?_;refine aw_region [.p, .p, .p] ?_;refine sm rfl rfl ?_;refine sa rfl rfl ?_;refine sa rfl rfl ?_;refine st_nil ?_;refine aw_ret ?_;subst hR;exact resN rfl ⟨rv_nilG rfl (nil_slX _), rv_g rfl, trivial⟩ (by simp)
 ·replace h1 : (decide ((s152 [(s102 a0), (s102 a1)]) ≠ 0)) = false := h1;replace hR := condF hR h1;(try simp only [bB] at h1);obtain ⟨hp, hp2⟩ := meet_ok h1;refine aw_skip ?_;refine aw_seq ?_;refine aw_region [.p, .p, .p, .p, .p, .p] ?_;refine su (eff_loadA rfl ty46 rfl rfl rfl) rfl ?_;refine su (eff_call rfl K136 rfl (c136 a0.fFrom a0.fTo a0.Days) (ag_cons rfl ag_nil)) rfl ?_;refine su (eff_makeF rfl rfl rfl) rfl ?_;refine su (eff_call rfl K135 rfl (c135M a0.fFrom a0.fTo a0.Days a1.fFrom a1.fTo a1.Days hp.1 (by omega) hp2.1 (by omega)) (ag_cons rfl (ag_cons rfl ag_nil))) rfl ?_;refine sa rfl rfl ?_;refine sa rfl rfl ?_;refine st_nil ?_;refine aw_ret ?_;subst hR;exact resN rfl ⟨rv_g rfl, rv_g rfl, trivial⟩ (by simp)
theorem c2021' {g : List (Nat × List Value)} (a0 a1 : S45) : Con (EG g) 21 [G.agg [G.int a0.fFrom, G.int a0.fTo, G.int a0.Days], G.agg [G.int a1.fFrom, G.int a1.fTo, G.int a1.Days]] (G.tup [G.sl 1 (List.map cInt ((s2021 a0 a1)).1), G.int ((s2021 a0 a1)).2]) := by
 intro w M vs hM hgl hv;refine (c2021 a0 a1 w M vs hM hgl hv).mono ?_;rintro e w' ⟨v, h1, h2, us, h3, h4⟩;refine ⟨v, h1, h2, us, h3, ?_⟩
 match us, h4 with
 | [u1, u2], ⟨k1, k2, k3⟩ => exact ⟨slX_sl k1, k2, k3⟩
theorem mask_eq0 {m d : Int} (h1 : 0 ≤ m) (h2 : m ≤ 127) (h3 : 0 ≤ d) (h4 : d ≤ 1000000) : s192 m (s180 d) = inM m d := by
 have hw : s180 d = (d + 5) % 7 := by
  unfold s180;rw [wrap_i64 (by unfold I64; omega), Int.tmod_eq_emod_of_nonneg (by omega)]
 rw [hw];have := mask_all ⟨m.toNat, by omega⟩ ⟨((d + 5) % 7).toNat, by omega⟩;simp only at this;rw [Int.toNat_of_nonneg (by omega), Int.toNat_of_nonneg (by omega)] at this;exact this
abbrev kFly : ByteArray := ⟨#[102, 108, 121]⟩
abbrev kWea : ByteArray := ⟨#[119, 101, 97, 116, 104, 101, 114]⟩
def flyN (nm : ByteArray) (m o d : Int) : S104 := S104.mk kFly nm (1440 * d + m + o) k68 0 0 ByteArray.empty 0
def weaN (d : Int) : S104 := S104.mk kWea ByteArray.empty 0 ByteArray.empty d d ByteArray.empty 0
theorem flown_l1 (nm : ByteArray) {M m o : Int} (hM : 0 ≤ M ∧ M ≤ 127) (hm : 100 ≤ m ∧ m ≤ 1300) (ho : -60 ≤ o ∧ o ≤ 60) : ∀ (t : List Int) (k : Nat) (x : List S104), (∀ d ∈ t, 0 ≤ d ∧ d ≤ 99999) → s2019_l1 nm M m o t k x = x ++ (t.filter (inM M)).map (flyN nm m o)
 | [], k, x, _ => by rw [s2019_l1]; simp
 | d :: t, k, x, hd => by
  have h := hd d List.mem_cons_self;have ih := fun k x => flown_l1 nm hM hm ho t k x fun e he => hd e (List.mem_cons_of_mem _ he);rw [s2019_l1, mask_eq0 hM.1 hM.2 h.1 (by omega), wrap_i64 (n := 1440 * d) ⟨by omega, by omega⟩, wrap_i64 (n := 1440 * d + m) ⟨by omega, by omega⟩, wrap_i64 (n := 1440 * d + m + o) ⟨by omega, by omega⟩, List.filter_cons];unfold s2019_j1
  cases inM M d with
  | true => rw [cond_true, if_pos rfl]; exact (ih _ _).trans (by simp [flyN])
  | false => rw [cond_false, if_neg (by simp)]; exact ih _ _
theorem flown_eq (nm : ByteArray) {M m o : Int} (hM : 0 ≤ M ∧ M ≤ 127) (hm : 100 ≤ m ∧ m ≤ 1300) (ho : -60 ≤ o ∧ o ≤ 60) {D : List Int} (hd : ∀ d ∈ D, 0 ≤ d ∧ d ≤ 99999) : s2019 nm D M m o = (D.filter (inM M)).map (flyN nm m o) := by
 unfold s2019; rw [flown_l1 nm hM hm ho D 0 [] hd]; rfl
def ntL (nm : ByteArray) (m o : Int) (F W : List Int) : List S104 := F.map (flyN nm m o) ++ W.map weaN
def atN (nm : ByteArray) (m o e : Int) : S151 := ⟨nm, 1440 * e + m + o, k68⟩
theorem ntL_fly (nm : ByteArray) (m o : Int) (F W : List Int) : ((ntL nm m o F W).filter s172).map s173 = F.map (atN nm m o) := by
 unfold ntL;rw [List.filter_append]
 have h1 : (F.map (flyN nm m o)).filter s172 = F.map (flyN nm m o) := List.filter_eq_self.2 fun x hx => by
  obtain ⟨e, _, rfl⟩ := List.mem_map.1 hx;show decide (kFly = kFly) = true;exact decide_eq_true rfl
 have h2 : (W.map weaN).filter s172 = [] := List.filter_eq_nil_iff.2 fun x hx => by
  obtain ⟨e, _, rfl⟩ := List.mem_map.1 hx;show ¬ decide (kWea = kFly) = true
  decide
 rw [h1, h2, List.append_nil, List.map_map]
 rfl
theorem any_fly {nm : ByteArray} {m o : Int} (hm : 100 ≤ m ∧ m ≤ 1300) (ho : -60 ≤ o ∧ o ≤ 60) (F W : List Int) {d : Int} (hd : 0 ≤ d ∧ d ≤ 99999) : (flyL (ntL nm m o F W)).any (s142 s2012 (slD nm k68 m d)) = decide (d ∈ F) := by
 have hp := flyL_perm (ntL nm m o F W);rw [ntL_fly] at hp;rw [any_perm hp, Bool.eq_iff_iff, List.any_eq_true, decide_eq_true_iff];have hiff := fun e => s142_iff s23_2012 (a := slD nm k68 m d) (b := atN nm m o e) (show 0 ≤ 1440 * d + m ∧ 1440 * d + m ≤ 143999999 by omega)
 constructor
 ·rintro ⟨x, hx, h⟩;obtain ⟨e, he, rfl⟩ := List.mem_map.1 hx;obtain ⟨_, k1, k2⟩ := (hiff e).1 h;replace k1 : 1440 * d + m - 60 ≤ 1440 * e + m + o := k1;replace k2 : 1440 * e + m + o ≤ 1440 * d + m + 60 := k2
  have : e = d := by omega
  exact this ▸ he
 ·intro h;refine ⟨atN nm m o d, List.mem_map_of_mem h, (hiff d).2 ⟨⟨rfl, rfl⟩, ?_, ?_⟩⟩
  ·show 1440 * d + m - 60 ≤ 1440 * d + m + o; omega
  ·show 1440 * d + m + o ≤ 1440 * d + m + 60; omega
theorem no_back (nm : ByteArray) (m o : Int) (F W : List Int) (s : S151) (a0 : S23) : s128 a0 s (ntL nm m o F W) = false := by
 rw [s128_any, List.any_eq_false];intro x hx;unfold ntL at hx
 rcases List.mem_append.1 hx with hx | hx
 ·obtain ⟨e, _, rfl⟩ := List.mem_map.1 hx;unfold s207;rw [show decide ((flyN nm m o e).Kind = (⟨#[98, 97, 99, 107]⟩ : ByteArray)) = false from (by decide : decide (kFly = (⟨#[98, 97, 99, 107]⟩ : ByteArray)) = false)]
  simp
 ·obtain ⟨e, _, rfl⟩ := List.mem_map.1 hx;unfold s207;rw [show decide ((weaN e).Kind = (⟨#[98, 97, 99, 107]⟩ : ByteArray)) = false from (by decide : decide (kWea = (⟨#[98, 97, 99, 107]⟩ : ByteArray)) = false)]
  simp
theorem exc_day {nm : ByteArray} {m o : Int} (hm : 100 ≤ m ∧ m ≤ 1300) (F W : List Int) {d : Int} (hd : 0 ≤ d ∧ d ≤ 99999) (kd : ByteArray) (a0 : S23) : s129 a0 (slD nm kd m d) (ntL nm m o F W) = decide (d ∈ W) := by
 have hday : IntKind.i64.wrap (Int.tdiv (slD nm kd m d).Moment 1440) = d := by
  show IntKind.i64.wrap (Int.tdiv (1440 * d + m) 1440) = d;rw [Int.tdiv_eq_ediv_of_nonneg (by omega), wrap_i64 ⟨by omega, by omega⟩]
  omega
 rw [s129_any, hday, Bool.eq_iff_iff, List.any_eq_true, decide_eq_true_iff];unfold ntL
 constructor
 ·rintro ⟨x, hx, h⟩
  rcases List.mem_append.1 hx with hx | hx
  ·obtain ⟨e, _, rfl⟩ := List.mem_map.1 hx;unfold s209 at h;rw [show decide ((flyN nm m o e).Kind = (⟨#[119, 101, 97, 116, 104, 101, 114]⟩ : ByteArray)) = false from (by decide : decide (kFly = kWea) = false), show decide ((flyN nm m o e).Kind = (⟨#[99, 97, 110, 99, 101, 108]⟩ : ByteArray)) = false from (by decide : decide (kFly = (⟨#[99, 97, 110, 99, 101, 108]⟩ : ByteArray)) = false)] at h
   simp at h
  ·obtain ⟨e, he, rfl⟩ := List.mem_map.1 hx;unfold s209 s208 at h;rw [Bool.and_eq_true, Bool.and_eq_true, decide_eq_true_iff, decide_eq_true_iff] at h;have h1 : e ≤ d := h.1.1;have h2 : d ≤ e := h.1.2
   have : e = d := by omega
   exact this ▸ he
 ·intro h;refine ⟨weaN d, List.mem_append.2 (.inr (List.mem_map_of_mem h)), ?_⟩;unfold s209 s208;rw [show decide ((weaN d).Kind = (⟨#[119, 101, 97, 116, 104, 101, 114]⟩ : ByteArray)) = true from (by decide : decide (kWea = kWea) = true), decide_eq_true (show (weaN d).fFrom ≤ d from Int.le_refl d), decide_eq_true (show d ≤ (weaN d).fTo from Int.le_refl d)]
  rfl
theorem st_val {nm : ByteArray} {m o : Int} (hm : 100 ≤ m ∧ m ≤ 1300) (ho : -60 ≤ o ∧ o ≤ 60) (F W : List Int) {d : Int} (hd : 0 ≤ d ∧ d ≤ 99999) : stW2 nm k68 m (ntL nm m o F W) d = bif decide (d ∈ F) then 1 else bif decide (d ∈ W) then 2 else 3 := by
 unfold stW2 stD;dsimp only;rw [no_back, cond_false, any_fly hm ho F W hd, exc_day hm F W hd]
theorem s98_map (l : List S104) (f : S104 → Int) : s98 l f = l.map f := by
 have key : ∀ (l : List S104) (k : Nat) (x : List Int), s98_l1 f l k x = x ++ l.map f := by
  intro l
  induction l with
  | nil => intro k x; simp [s98_l1]
  | cons y l ih => intro k x; rw [s98_l1, ih]; simp
 unfold s98; rw [key]; rfl
theorem s27_sub {l l' : List S104} (h : s27 l = 0) (hs : ∀ x ∈ l', x ∈ l) (hl : l'.length ≤ 512) : s27 l' = 0 := by
 have h1 := s27_len h;unfold s27 at h ⊢;rw [decide_eq_false (by omega), cond_false, s98_map] at h ⊢;refine s84_zeroA fun x hx => ?_;obtain ⟨n, hn, rfl⟩ := List.mem_map.1 hx;exact s84_all h _ (List.mem_map_of_mem (hs n hn))
end Go.Sim
set_option maxRecDepth 10000
namespace Go.Sim
open Go.Proofs
theorem s85_in {n : Int} (h : 0 ≤ n ∧ n ≤ 143999999) : s85 n 0 143999999 = 0 := by
 unfold s85 s86;rw [decide_eq_false (by omega), decide_eq_false (by omega)]; rfl
theorem s151_in {n : Int} (h : 0 ≤ n ∧ n ≤ 99999) : s151 n = 0 := by
 unfold s151 s85 s86;rw [decide_eq_false (by omega), decide_eq_false (by omega)]; rfl
theorem s99_fly {m o d : Int} (hm : 100 ≤ m ∧ m ≤ 1300) (ho : -60 ≤ o ∧ o ≤ 60) (hd : 0 ≤ d ∧ d ≤ 99999) : s99 (flyN n97 m o d) = 0 := by
 have h1 : s85 (1440 * d + m + o) 0 143999999 = 0 := s85_in (by omega)
 have hf : s149 kFly = (true, true, false, false, false) := by decide +kernel
 have hc : s88 [⟨#[102, 108, 121]⟩, ⟨#[98, 97, 99, 107]⟩, ⟨#[99, 97, 110, 99, 101, 108]⟩, ⟨#[119, 101, 97, 116, 104, 101, 114]⟩] kFly = true := by decide +kernel
 have e1 : (flyN n97 m o d).Kind = kFly := rfl;have e2 : (flyN n97 m o d).Moment = 1440 * d + m + o := rfl;unfold s99;rw [e1, hc, Bool.not_true, cond_false, hf, e2, h1];show s84 [s150 true (s87 n97), s150 true 0, s150 true (s101 k68), s150 false _, s150 false _, s150 false _, s150 false _, s150 false _, _] = 0;rw [s87_97, s101_68]
 rfl
theorem s99_wea {d : Int} (hd : 0 ≤ d ∧ d ≤ 99999) : s99 (weaN d) = 0 := by
 have h1 : s151 d = 0 := s151_in hd
 have hf : s149 kWea = (false, false, true, false, false) := by decide +kernel
 have hc : s88 [⟨#[102, 108, 121]⟩, ⟨#[98, 97, 99, 107]⟩, ⟨#[99, 97, 110, 99, 101, 108]⟩, ⟨#[119, 101, 97, 116, 104, 101, 114]⟩] kWea = true := by decide +kernel
 have e1 : (weaN d).Kind = kWea := rfl;have e2 : (weaN d).fFrom = d := rfl;have e3 : (weaN d).fTo = d := rfl;unfold s99;rw [e1, hc, Bool.not_true, cond_false, hf, e2, e3, h1, decide_eq_false (show ¬ d < d by omega)]
 rfl
theorem ntL_ok {m o : Int} (hm : 100 ≤ m ∧ m ≤ 1300) (ho : -60 ≤ o ∧ o ≤ 60) {F W : List Int} (hF : ∀ d ∈ F, 0 ≤ d ∧ d ≤ 99999) (hW : ∀ d ∈ W, 0 ≤ d ∧ d ≤ 99999) (hl : F.length + W.length ≤ 512) : s27 (ntL n97 m o F W) = 0 := by
 unfold s27;rw [decide_eq_false (by unfold ntL; rw [List.length_append, List.length_map, List.length_map]; omega), cond_false, s98_map];refine s84_zeroA fun x hx => ?_;obtain ⟨n, hn, rfl⟩ := List.mem_map.1 hx;unfold ntL at hn
 rcases List.mem_append.1 hn with hn | hn
 ·obtain ⟨e, he, rfl⟩ := List.mem_map.1 hn;exact s99_fly hm ho (hF e he)
 ·obtain ⟨e, he, rfl⟩ := List.mem_map.1 hn;exact s99_wea (hW e he)
theorem dayP_rng {p : S45} (hp : RedP p) : ∀ d ∈ dayP p, 0 ≤ d ∧ d ≤ 99999 := fun d hd => by
 have hpo := period_ok p hp.1;have := dayL_range _ _ _ d hd
 omega
theorem ratio_of {p : S45} {m : Int} {l : List S104} (hl : s27 l = 0) (hp : RedP p) (hm : 100 ≤ m ∧ m ≤ 1300) : s58 s2012 (s103 n97 k68 p m) l = some (S55.mk ((dayP p).countP fun d => isF (stW2 n97 k68 m l d) : Nat) ((dayP p).countP fun d => isD (stW2 n97 k68 m l d) : Nat), 0) := by
 have h122 := red_ok s87_97 s101_68 hp hm.1 hm.2 hl;have hlen : (dayP p).length ≤ 41 := red_len hp _;unfold s58;rw [h122, decide_eq_false (by decide), cond_false, red_status l hp.1 hm.1 hm.2];simp only [bindO];rw [s58_sum _ 0 0 0 (by omega) (by rw [List.length_map]; omega) (by omega) (by rw [List.length_map]; omega), List.countP_map, List.countP_map, Int.zero_add, Int.zero_add]
 rfl
theorem ratio_rev {p : S45} {m : Int} {l : List S104} (hl : s27 l = 0) (hp : RedP p) (hm : 100 ≤ m ∧ m ≤ 1300) : s58 s2012 (s103 n97 k68 p m) l.reverse = s58 s2012 (s103 n97 k68 p m) l := by
 have h27 : s27 l.reverse = 0 := s27_sub hl (fun x hx => List.mem_reverse.1 hx) (by rw [List.length_reverse]; exact s27_len hl);have h1 := red_ok s87_97 s101_68 hp hm.1 hm.2 hl;have h2 := red_ok s87_97 s101_68 hp hm.1 hm.2 h27;unfold s58;rw [h1, h2, s124_perm s2012 (s103 n97 k68 p m) (List.reverse_perm l)]
theorem cnt_flown {p : S45} {m o : Int} (hm : 100 ≤ m ∧ m ≤ 1300) (ho : -60 ≤ o ∧ o ≤ 60) (hp : RedP p) (F W : List Int) (B : Int → Bool) : (dayP p).countP (fun d => B d && isF (stW2 n97 k68 m (ntL n97 m o F W) d)) = (dayP p).countP (fun d => B d && (decide (d ∈ F) || decide (d ∈ W))) := by
 refine List.countP_congr fun d hd => ?_;rw [st_val hm ho F W (dayP_rng hp d hd)]
 cases decide (d ∈ F) <;> cases decide (d ∈ W) <;> simp [isF]
theorem cnt_due {p : S45} {m o : Int} (hm : 100 ≤ m ∧ m ≤ 1300) (ho : -60 ≤ o ∧ o ≤ 60) (hp : RedP p) (F W : List Int) (B : Int → Bool) : (dayP p).countP (fun d => B d && isD (stW2 n97 k68 m (ntL n97 m o F W) d)) = (dayP p).countP B := by
 refine List.countP_congr fun d hd => ?_;rw [st_val hm ho F W (dayP_rng hp d hd)]
 cases decide (d ∈ F) <;> cases decide (d ∈ W) <;> simp [isD]
theorem sha_ratio {p : S45} {m o : Int} (hm : 100 ≤ m ∧ m ≤ 1300) (ho : -60 ≤ o ∧ o ≤ 60) (hp : RedP p) {F W : List Int} (hl : s27 (ntL n97 m o F W) = 0) : s58 s2012 (s103 n97 k68 p m) (ntL n97 m o F W) = some (S55.mk ((dayP p).countP fun d => (decide (d ∈ F) || decide (d ∈ W)) : Nat) ((dayP p).length : Nat), 0) := by
 rw [ratio_of hl hp hm];have h1 := cnt_flown hm ho hp F W (fun _ => true);have h2 := cnt_due hm ho hp F W (fun _ => true);simp only [Bool.true_and] at h1 h2;rw [h1, h2, List.countP_eq_length.2 fun _ _ => rfl]
theorem sha_mask {p : S45} {m : Int} (l : List S104) (hl : s27 l = 0) (hp : RedP p) (hm0 : 100 ≤ m) (hm1 : m ≤ 1300) : ∃ y : Nat, s72 s2012 (s103 n97 k68 p m) l = some ((y : Int), 0) ∧ y < 128 ∧
  ∀ j < 7, bitB (y : Int) j = true ↔ (0 < (dayP p).countP (fun d => decide (wd d = (j : Int)) && isD (stW2 n97 k68 m l d)) ∧
   80 * (dayP p).countP (fun d => decide (wd d = (j : Int)) && isD (stW2 n97 k68 m l d)) ≤ 100 * (dayP p).countP (fun d => decide (wd d = (j : Int)) && isF (stW2 n97 k68 m l d))) := by
 have h0 := red_ok s87_97 s101_68 hp hm0 hm1 hl;have hr := dayP_rng hp;have hlen : (dayP p).length ≤ 41 := red_len hp _;unfold s72;rw [h0, decide_eq_false (by decide), cond_false, red_status l hp.1 hm0 hm1];simp only [bindO];obtain ⟨x', g1, g2, g3⟩ := l72_run s2012 (s103 n97 k68 p m) ((dayP p).map (stW2 n97 k68 m l)) 0 (List.replicate 7 (S55.mk 0 0)) (by rw [s103_sl]; simp) rfl;obtain ⟨y, k1, k2, k3⟩ := mask_bits s2012 x' 0 0 (by omega) (by decide);refine ⟨y, by rw [g1]; exact congrArg (fun z => some (z, (0 : Int))) k1, k2, fun j hj => ?_⟩;have h1 := g3 j (S55.mk 0 0) (by rw [List.getElem?_replicate, if_pos (by omega)]);rw [List.drop_zero, s103_sl, cntS_day _ j hm0 hm1 (dayP p) 0 0 hr (by omega) (by omega) (by omega) (by omega)] at h1;have c1 := List.countP_le_length (p := fun d => decide (wd d = (j : Int)) && isF (stW2 n97 k68 m l d)) (l := dayP p);have c2 := List.countP_le_length (p := fun d => decide (wd d = (j : Int)) && isD (stW2 n97 k68 m l d)) (l := dayP p);generalize (dayP p).countP (fun d => decide (wd d = (j : Int)) && isF (stW2 n97 k68 m l d)) = u at *;generalize (dayP p).countP (fun d => decide (wd d = (j : Int)) && isD (stW2 n97 k68 m l d)) = v at *
 have hs : s106 s2012 (S55.mk (0 + (u : Int)) (0 + (v : Int))) = true ↔ (0 < v ∧ 80 * v ≤ 100 * u) := by
  show (decide (0 < 0 + (v : Int)) && decide (IntKind.i64.wrap (80 * (0 + (v : Int))) ≤ IntKind.i64.wrap (100 * (0 + (u : Int))))) = true ↔ _;rw [wrap_i64 (n := 80 * (0 + (v : Int))) ⟨by omega, by omega⟩, wrap_i64 (n := 100 * (0 + (u : Int))) ⟨by omega, by omega⟩, Bool.and_eq_true, decide_eq_true_eq, decide_eq_true_eq]
  omega
 rw [k3 j hj]
 constructor
 ·rintro (h | ⟨i, z, hz, hi, hk⟩)
  ·have := bit_zero j hj;unfold bitB at h;rw [show (((0 : Nat) : Int)) = 0 from rfl, this] at h; cases h
  ·have : i = j := by omega
   subst this;rw [hz] at h1;rw [Option.some.inj h1] at hk;exact hs.1 hk
 ·intro h;exact .inr ⟨j, _, h1, by omega, hs.2 h⟩
end Go.Sim
set_option maxRecDepth 10000
namespace Go.Sim
open Go.Proofs
theorem inM_at {M d : Int} {j : Nat} (h : wd d = (j : Int)) : inM M d = bitB M j := by
 rw [inM_bit, h]; rfl
theorem mem_fl {M d : Int} {D : List Int} (hd : d ∈ D) : decide (d ∈ D.filter (inM M)) = inM M d := by
 rw [Bool.eq_iff_iff, decide_eq_true_iff, List.mem_filter];exact ⟨fun h => h.2, fun h => ⟨hd, h⟩⟩
theorem sha_bits {p : S45} {m o M : Int} (hm : 100 ≤ m ∧ m ≤ 1300) (ho : -60 ≤ o ∧ o ≤ 60) (hp : RedP p) (hl : s27 (ntL n97 m o ((dayP p).filter (inM M)) []) = 0) : ∃ y : Nat, s72 s2012 (s103 n97 k68 p m) (ntL n97 m o ((dayP p).filter (inM M)) []) = some ((y : Int), 0) ∧ y < 128 ∧
  ∀ j < 7, bitB (y : Int) j = true ↔ (bitB M j = true ∧ ∃ d ∈ dayP p, wd d = (j : Int)) := by
 obtain ⟨y, h1, h2, h3⟩ := sha_mask _ hl hp hm.1 hm.2;refine ⟨y, h1, h2, fun j hj => ?_⟩;have c1 := cnt_due hm ho hp ((dayP p).filter (inM M)) [] (fun d => decide (wd d = (j : Int)));have c2 := cnt_flown hm ho hp ((dayP p).filter (inM M)) [] (fun d => decide (wd d = (j : Int)));rw [h3 j hj, c1, c2]
 have e1 : (0 < (dayP p).countP fun d => decide (wd d = (j : Int))) ↔ ∃ d ∈ dayP p, wd d = (j : Int) := by
  rw [List.countP_pos_iff];exact ⟨fun ⟨d, g1, g2⟩ => ⟨d, g1, of_decide_eq_true g2⟩, fun ⟨d, g1, g2⟩ => ⟨d, g1, decide_eq_true g2⟩⟩
 cases hb : bitB M j with
 | true =>
  have e2 : (dayP p).countP (fun d => decide (wd d = (j : Int)) && (decide (d ∈ (dayP p).filter (inM M)) || decide (d ∈ ([] : List Int)))) = (dayP p).countP fun d => decide (wd d = (j : Int)) := by
   refine List.countP_congr fun d hd => ?_;rw [mem_fl hd]
   by_cases hw : wd d = (j : Int)
   ·rw [inM_at hw, hb]; simp [hw]
   ·simp [hw]
  rw [e2, ← e1]
  constructor
  ·rintro ⟨g1, _⟩; exact ⟨rfl, g1⟩
  ·rintro ⟨_, g1⟩; exact ⟨g1, by omega⟩
 | false =>
  have e2 : (dayP p).countP (fun d => decide (wd d = (j : Int)) && (decide (d ∈ (dayP p).filter (inM M)) || decide (d ∈ ([] : List Int)))) = 0 := by
   rw [List.countP_eq_zero];intro d hd;rw [mem_fl hd]
   by_cases hw : wd d = (j : Int)
   ·rw [inM_at hw, hb]; simp
   ·simp [hw]
  rw [e2]
  constructor
  ·rintro ⟨g1, g2⟩; omega
  ·rintro ⟨g1, _⟩; cases g1
theorem bits_eq {y z : Nat} (hy : y < 128) (hz : z < 128) (h : ∀ j < 7, bitB (y : Int) j = true ↔ bitB (z : Int) j = true) : y = z := by
 apply Nat.eq_of_testBit_eq
 intro i
 by_cases hi : i < 7
 ·have := h i hi;unfold bitB at this;rw [bit_test y hy i hi, bit_test z hz i hi] at this;exact Bool.eq_iff_iff.2 this
 ·have h2 : 2 ^ 7 ≤ 2 ^ i := Nat.pow_le_pow_right (by decide) (by omega)
  have h3 : (128 : Nat) = 2 ^ 7 := by decide
  rw [Nat.testBit_lt_two_pow (by omega), Nat.testBit_lt_two_pow (by omega)]
set_option maxRecDepth 100000 in
theorem or_bitS : ∀ k : Fin 7, ∀ x : Fin 128, orI (x.val : Int) (shlI 1 (k.val : Int)) = ((x.val ||| 2 ^ k.val : Nat) : Int) := by decide +kernel
def keptN : List Int → Nat → Nat
 | [], x => x
 | d :: t, x => keptN t (x ||| 2 ^ (wd d).toNat)
theorem or_lt {x k : Nat} (hx : x < 128) (hk : k < 7) : x ||| 2 ^ k < 128 := by
 have h1 : 2 ^ k < 2 ^ 7 := Nat.pow_lt_pow_right (by decide) hk;exact Nat.or_lt_two_pow (n := 7) (by simpa using hx) h1
theorem kept_bits : ∀ (t : List Int) (x : Nat), x < 128 → keptN t x < 128 ∧ ∀ j < 7, bitB (keptN t x : Int) j = true ↔ (bitB (x : Int) j = true ∨ ∃ d ∈ t, wd d = (j : Int))
 | [], x, hx => ⟨hx, fun j _ => by simp [keptN]⟩
 | d :: t, x, hx => by
  have hw := wd_rng d;obtain ⟨h1, h2⟩ := kept_bits t (x ||| 2 ^ (wd d).toNat) (or_lt hx (by omega));refine ⟨h1, fun j hj => ?_⟩
  have e : bitB ((x ||| 2 ^ (wd d).toNat : Nat) : Int) j = true ↔ (bitB (x : Int) j = true ∨ wd d = (j : Int)) := by
   unfold bitB;rw [bit_test _ (or_lt hx (by omega)) j hj, bit_test x hx j hj, Nat.testBit_or, Nat.testBit_two_pow, Bool.or_eq_true, decide_eq_true_iff]
   constructor
   ·rintro (h | h)
    ·exact .inl h
    ·exact .inr (by omega)
   ·rintro (h | h)
    ·exact .inl h
    ·exact .inr (by omega)
  show bitB (keptN t (x ||| 2 ^ (wd d).toNat) : Int) j = true ↔ _;rw [h2 j hj, e]
  constructor
  ·rintro ((h | h) | ⟨q, h3, h4⟩)
   ·exact .inl h
   ·exact .inr ⟨d, List.mem_cons_self, h⟩
   ·exact .inr ⟨q, List.mem_cons_of_mem _ h3, h4⟩
  ·rintro (h | ⟨q, h3, h4⟩)
   ·exact .inl (.inl h)
   ·rcases List.mem_cons.1 h3 with rfl | h3
    ·exact .inl (.inr h4)
    ·exact .inr ⟨q, h3, h4⟩
end Go.Sim
set_option maxRecDepth 10000
namespace Go.Sim
open Go.Proofs
theorem meet_eq {p : S45} {M : Int} (hp : RedP p) (hM : 1 ≤ M ∧ M ≤ 127) : s2021 p (S45.mk p.fFrom p.fTo M) = ((dayP p).filter (inM M), 0) := by
 have hpo := period_ok p hp.1;have h2 : s102 (S45.mk p.fFrom p.fTo M) = 0 := s102_of hpo.1 hpo.2.1 hpo.2.2.1 hpo.2.2.2.1 hM.1 hM.2;unfold s2021;rw [hp.1, h2, show s152 [0, 0] = 0 from rfl, decide_eq_false (by decide), cond_false];refine congrArg (fun l => (l, (0 : Int))) (List.filter_congr fun d hd => ?_);have hr := dayL_range _ _ _ d hd;unfold hasB;rw [decide_eq_true (show p.fFrom ≤ d from hr.1), decide_eq_true (show d ≤ p.fTo by omega)]
 rfl
class PureCs (l : List G) : Prop where
 pure : PureL l
instance : PureCs [] := ⟨pureL_nil⟩
instance (c : G) (l : List G) [hc : Pure c] [hl : PureCs l] : PureCs (c :: l) := ⟨fun g hg => by
 rcases List.mem_cons.1 hg with rfl | hg
 ·exact fun _ _ _ _ _ h => hc.pure h
 ·exact hl.pure g hg⟩
theorem fitsT_pure {w w' : World} {M M' : Nat → Prop} : ∀ {l : List G} {vs : List Value}, PureL l → FitsT w M l vs → FitsT w' M' l vs
 | [], [], _, h => h
 | [], _ :: _, _, h => by cases h
 | _ :: _, [], _, h => by cases h
 | c :: l, v :: vs, hp, h => ⟨hp c List.mem_cons_self _ _ _ _ _ h.1, fitsT_pure (fun g hg => hp g (List.mem_cons_of_mem _ hg)) h.2⟩
instance (l : List G) [h : PureCs l] : Pure (.agg l) := ⟨fun ⟨vs, h1, h2⟩ => ⟨vs, h1, Fits.pure h.pure h2⟩⟩
instance (l : List G) [h : PureCs l] : Pure (.tup l) := ⟨fun ⟨vs, h1, h2⟩ => ⟨vs, h1, fitsT_pure h.pure h2⟩⟩
end Go.Sim
set_option maxRecDepth 10000
namespace Go.Sim
open Go.Proofs
theorem nc171W {g : List (Nat × List Value)} (a0 : List S104) (a1 : S104 → Bool) {ca1 : G} {ia1 : FuncId} {ka1 : List G} (ha1 : FnIs ca1 ia1 ka1) (Ka1 : Known Tryz.prog ia1) (Ha1 : ∀ (x0 : S104), Con (EG g) ia1 ([G.agg [G.str x0.Kind, G.str x0.Name, G.int x0.Moment, G.str x0.Move, G.int x0.fFrom, G.int x0.fTo, G.str x0.Cause, G.int x0.Told]] ++ ka1) (G.bool (a1 x0))) (hb0 : a0.length ≤ 1000)  : ConN (EG g) 147 [G.sl 8 (List.map S104.c a0), ca1] 35 8 (List.map S104.c (s171 a0 a1)) := by
 generalize hR : s171 a0 a1 = R;unfold s171 at hR;refine conN_of_aw Tryz.func147 rfl rfl fun w0 M0 => ?_;refine len_sl (f := S104.c) (l := a0) 0 rfl fun hla0 => ?_;refine aw_seq ?_;refine aw_region [.w] ?_;refine sw (eff_nilL 4 35 8 rfl rfl rfl) rfl ?_;refine st_nil ?_;refine aw_seq ?_;refine aw_region [.w] ?_;refine sw (eff_nilL 5 35 8 rfl rfl rfl) rfl ?_;refine st_nil ?_;refine aw_seq ?_;refine aw_seq ?_;refine aw_region [.p, .p, .p] ?_;refine sm rfl rfl ?_;refine su (eff_lenM (f := S104.c) (l := a0) rfl Tryz.underlying24 rfl) rfl ?_;refine sm rfl rfl ?_;refine st_nil ?_;refine aw_block ?_;refine aw_loop_g (γ := Nat × (List S104) × (List S104)) (fun g => ([(1, .g (ca1)), (5, .osl 5 8 0 (List.length g.2.2)), (8, .g (G.sl 8 (List.map S104.c a0))), (9, .g (G.int (List.length a0 : Int))), (10, .g (G.int ((g.1 : Nat) : Int)))], [(5, .arr 35 8 (List.map S104.c g.2.2))])) (fun g => g.2.2.length ≤ g.1 ∧ a0.drop g.1 = g.2.1 ∧ s171_l1 a1 g.2.1 g.1 g.2.2 = R) (fun g => List.length g.2.1) ⟨rfl, (0, a0, []), ⟨rfl, rfl, rfl, rfl, rfl, trivial⟩, ⟨rfl, trivial⟩, rfl, ⟨iH, rfl, hR⟩, trivial⟩ ?_
 ·rintro ⟨k3, t5, x1⟩ ⟨iv1_0, hd, hR⟩;replace hd : a0.drop k3 = t5 := hd;replace hR : s171_l1 a1 t5 k3 x1 = R := hR;replace iv1_0 : x1.length ≤ k3 := iv1_0;refine aw_seq ?_;refine aw_region [.p] ?_;refine su (eff_lss rfl rfl rfl) rfl ?_;refine st_nil ?_;refine len_sl (f := S104.c) (l := a0) 8 rfl fun hlz1 => ?_;refine aw_seq ?_;refine aw_cond _ rfl (fun h1 => ?_) (fun h1 => ?_)
  ·replace h1 : (decide (((k3 : Nat) : Int) < (List.length a0 : Int))) = true := h1;obtain ⟨y4, t5, rfl, hx1, hd⟩ := drop_cons hd (decT h1);replace h1 := decT h1;rw [s171_l1] at hR;(try dsimp only at hR);refine aw_skip ?_;refine aw_cut_g (γ := (List S104)) (fun g => ([(1, .g (ca1)), (5, .osl 5 8 0 (List.length g)), (8, .g (G.sl 8 (List.map S104.c a0))), (9, .g (G.int (List.length a0 : Int))), (10, .g (G.int ((k3 : Nat) : Int)))], [(5, .arr 35 8 (List.map S104.c g))])) (fun g => g.length ≤ k3 + 1 ∧ s171_j1 (fun k_ z0_ => s171_l1 a1 t5 k_ z0_) k3 g = R) ?_ ?_
   ·refine aw_block ?_;refine aw_seq ?_;refine aw_region [.p, .p, .w, .w] ?_;refine su (eff_ix (f := S104.c) (l := a0) (a := y4) rfl Tryz.underlying24 ty105 rfl rfl (Int.natCast_nonneg _) hx1) rfl ?_;refine su (eff_loadA rfl ty105 rfl rfl rfl) rfl ?_;refine sw (eff_alloc 7 rfl z105 rfl rfl) rfl ?_;refine st_wn rfl rfl (eff_store (tv := .g (G.agg [G.str y4.Kind, G.str y4.Name, G.int y4.Moment, G.str y4.Move, G.int y4.fFrom, G.int y4.fTo, G.str y4.Cause, G.int y4.Told])) rfl ty105 rfl rfl rfl rfl rfl) ?_;refine st_nil ?_;refine aw_seq ?_;refine aw_region [.p, .r, .p] ?_;refine sm rfl rfl ?_;refine sr (eff_loadOA rfl ty105 rfl rfl rfl rfl) rfl ?_;refine su (eff_callf rfl ha1 Ka1 rfl (Ha1 y4) (ag_cons rfl ag_nil)) rfl ?_;refine st_nil ?_;refine aw_cond _ rfl (fun h3 => ?_) (fun h3 => ?_)
    ·replace h3 : ((a1 y4)) = true := h3;replace hR := condT hR h3;(try simp only [bB] at h3);refine aw_region [.p, .r, .p, .k, .p] ?_;refine su (eff_moveO rfl rfl) rfl ?_;refine sr (eff_loadOA rfl ty105 rfl rfl rfl rfl) rfl ?_;refine su (eff_buildSlice rfl Tryz.underlying24 ty105 z105 rfl (ps_cons rfl ps_nil) rfl (by simp [S104.c]) (by decide)) rfl ?_;refine st_k rfl rfl (eff_appL (f := S104.c) (out := x1) (new := [y4]) rfl app26 rfl rfl (src_eq rfl (src_sl (by decide) (by simp [S104.c]))) (refsN rfl) (by simp; omega)) rfl ?_;refine su (eff_assignO rfl rfl) rfl ?_;refine st_nil ?_;exact ⟨rfl, x1 ++ [y4], ⟨rfl, rfl, rfl, rfl, rfl, trivial⟩, ⟨rfl, trivial⟩, rfl, ⟨iC, hR⟩, trivial⟩
    ·replace h3 : ((a1 y4)) = false := h3;replace hR := condF hR h3;(try simp only [bB] at h3);refine aw_skip ?_;exact ⟨rfl, x1, ⟨rfl, rfl, rfl, rfl, rfl, trivial⟩, ⟨rfl, trivial⟩, rfl, ⟨iC, hR⟩, trivial⟩
   ·rintro x6 ⟨jv1_0, hR⟩;replace jv1_0 : x6.length ≤ k3 + 1 := jv1_0;replace hR : s171_j1 (fun k_ z0_ => s171_l1 a1 t5 k_ z0_) k3 x6 = R := hR;unfold s171_j1 at hR;refine aw_region [.p, .p] ?_;refine su (eff_add rfl rfl rfl iE) rfl ?_;refine sm rfl rfl ?_;refine st_nil ?_;exact ⟨rfl, (k3 + 1, t5, x6), ⟨rfl, rfl, rfl, rfl, rfl, trivial⟩, ⟨rfl, trivial⟩, rfl, ⟨iB, hd, hR⟩, by simp⟩
  ·replace h1 : (decide (((k3 : Nat) : Int) < (List.length a0 : Int))) = false := h1;obtain rfl := drop_nil hd (decF h1);rw [s171_l1] at hR;refine aw_exit ?_;refine aw_seq ?_;refine aw_region [.p, .p] ?_;refine su (eff_moveO rfl rfl) rfl ?_;refine su (eff_assignO rfl rfl) rfl ?_;refine st_nil ?_;refine aw_ret ?_;subst hR;exact doneN_own rfl rfl rfl ((List.length_map ..).trans rfl)
theorem c171W {g : List (Nat × List Value)} (a0 : List S104) (a1 : S104 → Bool) {ca1 : G} {ia1 : FuncId} {ka1 : List G} (ha1 : FnIs ca1 ia1 ka1) (Ka1 : Known Tryz.prog ia1) (Ha1 : ∀ (x0 : S104), Con (EG g) ia1 ([G.agg [G.str x0.Kind, G.str x0.Name, G.int x0.Moment, G.str x0.Move, G.int x0.fFrom, G.int x0.fTo, G.str x0.Cause, G.int x0.Told]] ++ ka1) (G.bool (a1 x0))) (hb0 : a0.length ≤ 1000)  : Con (EG g) 147 [G.sl 8 (List.map S104.c a0), ca1] (G.sl 8 (List.map S104.c (s171 a0 a1))) :=
 ConN.con (by decide) (nc171W a0 a1 ha1 Ka1 Ha1 hb0)
theorem nc170W {g : List (Nat × List Value)} (a0 : List S104) (a1 : S104 → S151) {ca1 : G} {ia1 : FuncId} {ka1 : List G} (ha1 : FnIs ca1 ia1 ka1) (Ka1 : Known Tryz.prog ia1) (Ha1 : ∀ (x0 : S104), Con (EG g) ia1 ([G.agg [G.str x0.Kind, G.str x0.Name, G.int x0.Moment, G.str x0.Move, G.int x0.fFrom, G.int x0.fTo, G.str x0.Cause, G.int x0.Told]] ++ ka1) (G.agg [G.str ((a1 x0).Name), G.int ((a1 x0).Moment), G.str ((a1 x0).Kind)])) (hb0 : a0.length ≤ 1000)  : ConN (EG g) 146 [G.sl 8 (List.map S104.c a0), ca1] 110 3 (List.map S151.c (s170 a0 a1)) := by
 generalize hR : s170 a0 a1 = R;unfold s170 at hR;refine conN_of_aw Tryz.func146 rfl rfl fun w0 M0 => ?_;refine len_sl (f := S104.c) (l := a0) 0 rfl fun hla0 => ?_;refine aw_seq ?_;refine aw_region [.w] ?_;refine sw (eff_nilL 4 110 3 rfl rfl rfl) rfl ?_;refine st_nil ?_;refine aw_seq ?_;refine aw_region [.w] ?_;refine sw (eff_nilL 5 110 3 rfl rfl rfl) rfl ?_;refine st_nil ?_;refine aw_seq ?_;refine aw_seq ?_;refine aw_region [.p, .p, .p] ?_;refine sm rfl rfl ?_;refine su (eff_lenM (f := S104.c) (l := a0) rfl Tryz.underlying24 rfl) rfl ?_;refine sm rfl rfl ?_;refine st_nil ?_;refine aw_block ?_;refine aw_loop_g (γ := Nat × (List S104) × (List S151)) (fun g => ([(1, .g (ca1)), (5, .osl 5 3 0 (List.length g.2.2)), (8, .g (G.sl 8 (List.map S104.c a0))), (9, .g (G.int (List.length a0 : Int))), (10, .g (G.int ((g.1 : Nat) : Int)))], [(5, .arr 110 3 (List.map S151.c g.2.2))])) (fun g => g.2.2.length ≤ g.1 ∧ a0.drop g.1 = g.2.1 ∧ s170_l1 a1 g.2.1 g.1 g.2.2 = R) (fun g => List.length g.2.1) ⟨rfl, (0, a0, []), ⟨rfl, rfl, rfl, rfl, rfl, trivial⟩, ⟨rfl, trivial⟩, rfl, ⟨iH, rfl, hR⟩, trivial⟩ ?_
 ·rintro ⟨k3, t5, x1⟩ ⟨iv1_0, hd, hR⟩;replace hd : a0.drop k3 = t5 := hd;replace hR : s170_l1 a1 t5 k3 x1 = R := hR;replace iv1_0 : x1.length ≤ k3 := iv1_0;refine aw_seq ?_;refine aw_region [.p] ?_;refine su (eff_lss rfl rfl rfl) rfl ?_;refine st_nil ?_;refine len_sl (f := S104.c) (l := a0) 8 rfl fun hlz1 => ?_;refine aw_seq ?_;refine aw_cond _ rfl (fun h1 => ?_) (fun h1 => ?_)
  ·replace h1 : (decide (((k3 : Nat) : Int) < (List.length a0 : Int))) = true := h1;obtain ⟨y4, t5, rfl, hx1, hd⟩ := drop_cons hd (decT h1);replace h1 := decT h1;rw [s170_l1] at hR;(try dsimp only at hR);refine aw_skip ?_;refine aw_seq ?_;refine aw_block ?_;refine aw_seq ?_;refine aw_region [.p, .p, .w, .w] ?_;refine su (eff_ix (f := S104.c) (l := a0) (a := y4) rfl Tryz.underlying24 ty105 rfl rfl (Int.natCast_nonneg _) hx1) rfl ?_;refine su (eff_loadA rfl ty105 rfl rfl rfl) rfl ?_;refine sw (eff_alloc 7 rfl z105 rfl rfl) rfl ?_;refine st_wn rfl rfl (eff_store (tv := .g (G.agg [G.str y4.Kind, G.str y4.Name, G.int y4.Moment, G.str y4.Move, G.int y4.fFrom, G.int y4.fTo, G.str y4.Cause, G.int y4.Told])) rfl ty105 rfl rfl rfl rfl rfl) ?_;refine st_nil ?_;refine aw_region [.p, .p, .r, .p, .p, .k, .p] ?_;refine su (eff_moveO rfl rfl) rfl ?_;refine sm rfl rfl ?_;refine sr (eff_loadOA rfl ty105 rfl rfl rfl rfl) rfl ?_;refine su (eff_callf rfl ha1 Ka1 rfl (Ha1 y4) (ag_cons rfl ag_nil)) rfl ?_;refine su (eff_buildSlice rfl Tryz.underlying39 ty152 z152 rfl (ps_cons rfl ps_nil) rfl (by simp [S151.c]) (by decide)) rfl ?_;refine st_k rfl rfl (eff_appL (f := S151.c) (out := x1) (new := [(a1 y4)]) rfl app25 rfl rfl (src_eq rfl (src_sl (by decide) (by simp [S151.c]))) (refsN rfl) (by simp; omega)) rfl ?_;refine su (eff_assignO rfl rfl) rfl ?_;refine st_nil ?_;refine aw_region [.p, .p] ?_;refine su (eff_add rfl rfl rfl iE) rfl ?_;refine sm rfl rfl ?_;refine st_nil ?_;exact ⟨rfl, (k3 + 1, t5, x1 ++ [(a1 y4)]), ⟨rfl, rfl, rfl, rfl, rfl, trivial⟩, ⟨rfl, trivial⟩, rfl, ⟨iB, hd, hR⟩, by simp⟩
  ·replace h1 : (decide (((k3 : Nat) : Int) < (List.length a0 : Int))) = false := h1;obtain rfl := drop_nil hd (decF h1);rw [s170_l1] at hR;refine aw_exit ?_;refine aw_seq ?_;refine aw_region [.p, .p] ?_;refine su (eff_moveO rfl rfl) rfl ?_;refine su (eff_assignO rfl rfl) rfl ?_;refine st_nil ?_;refine aw_ret ?_;subst hR;exact doneN_own rfl rfl rfl ((List.length_map ..).trans rfl)
section
variable {E : Env} {w0 : World} {M0 : Nat → Prop}
def ConT (E : Env) (f : FuncId) (args : List TV) (e : TypeId) (k : Nat) (xs xs' : List (List G)) (n : Nat) : Prop :=
 ∀ w M ρ (vs : List Value), (∀ b, M b → b < w.heap.size) → GlOk E w (owned M ρ) → (∀ id x, ρ id = some x → ∃ blk, lookO [(0, Blk.arr e k xs)] id = some blk) →
  (∀ id ow, ρ id = some (some ow) → ow.b < w.heap.size ∧ ¬ M ow.b) → (∀ id id' ow ow', ρ id = some (some ow) → ρ id' = some (some ow') → ow.b = ow'.b → id = id') →
  (∀ id blk, lookO [(0, Blk.arr e k xs)] id = some blk → BRel w (owned M ρ) ρ id blk) → ArgsT w (owned M ρ) ρ args vs →
  Calls E.P f vs.toArray w fun ex w' => ∃ v, ex = .returned v ∧ BelowX (fun b => ∃ id ow, ρ id = some (some ow) ∧ ow.b = b) w w' ∧ BRel w' (owned M ρ) ρ 0 (.arr e k xs') ∧ TRel w' (owned M ρ) ρ (.osl 0 k 0 n) v
theorem ConT.lend {f : FuncId} {args : List TV} {e : TypeId} {k n : Nat} {xs xs' : List (List G)} {mem : Mem} {x : Nat → Option Own} (h : ConT E f args e k xs xs' n) : ConT (E.lend mem x) f args e k xs xs' n := h
end
section
variable {α : Type} [Inhabited α]
theorem fitsL_lit {w : World} {M : Nat → Prop} : ∀ {l vs : List Value}, Fits w M (l.map G.lit) vs → vs = l
 | [], [], _ => rfl
 | a :: l, v :: vs, h => by
  obtain ⟨⟨h1, h2⟩, h3⟩ := h;have h1 : v = a := h1;rw [h1, fitsL_lit h3]
 | [], _ :: _, h => h.elim
 | _ :: _, [], h => h.elim
theorem fitsL_of {w : World} {M : Nat → Prop} : ∀ {l : List Value}, (∀ v ∈ l, v.oneCell' = true) → Fits w M (l.map G.lit) l
 | [], _ => trivial
 | v :: l, h => ⟨⟨rfl, h v List.mem_cons_self⟩, fitsL_of fun u hu => h u (List.mem_cons_of_mem _ hu)⟩
def encF (enc : α → List Value) (l : List α) : List Value := (l.map enc).flatten
theorem encF_len {enc : α → List Value} {k : Nat} (hk : ∀ x, (enc x).length = k) : ∀ l : List α, (encF enc l).length = l.length * k
 | [] => by simp [encF]
 | x :: l => by
  have := encF_len hk l;unfold encF at *;rw [List.map_cons, List.flatten_cons, List.length_append, this, hk, List.length_cons, Nat.add_mul]; omega
theorem encF_lit (enc : α → List Value) (l : List α) : (l.map fun x => (enc x).map G.lit).flatten = (encF enc l).map G.lit := by
 unfold encF;rw [List.map_flatten, List.map_map]; rfl
theorem encF_get {enc : α → List Value} {k : Nat} (hk : ∀ x, (enc x).length = k) : ∀ (l : List α) (t : Nat), t < l.length * k → (encF enc l)[t]? = some (enc l[t / k]!)[t % k]!
 | [], t, h => by simp at h
 | x :: l, t, h => by
  have k0 : 0 < k := by
   rcases Nat.eq_zero_or_pos k with e | e
   ·subst e; simp at h
   ·exact e
  show (enc x ++ encF enc l)[t]? = _;rw [List.length_cons, Nat.add_mul, Nat.one_mul] at h
  by_cases ht : t < k
  ·rw [List.getElem?_append_left (by rw [hk]; exact ht), Nat.div_eq_of_lt ht, Nat.mod_eq_of_lt ht];show (enc x)[t]? = some (enc x)[t]!;rw [List.getElem!_eq_getElem?_getD, List.getElem?_eq_getElem (by rw [hk]; exact ht)]; rfl
  ·rw [List.getElem?_append_right (by rw [hk]; omega), hk, encF_get hk l (t - k) (by omega)]
   have e1 : t / k = (t - k) / k + 1 := by rw [← Nat.add_div_right _ k0, Nat.sub_add_cancel (by omega)]
   have e2 : t % k = (t - k) % k := by rw [← Nat.add_mod_right (t - k) k, Nat.sub_add_cancel (by omega)]
   rw [e1, e2, List.getElem!_cons_succ]
open Go.Sort in
theorem flatK_list {enc : α → List Value} {k : Nat} (hk : ∀ x, (enc x).length = k) (l : List α) : Go.Sort.flatK enc k l.toArray = (encF enc l).toArray := by
 refine ext_get! (by rw [size_flatK, List.size_toArray, List.size_toArray, encF_len hk]) fun t ht => ?_;rw [size_flatK, List.size_toArray] at ht;rw [get_flatK _ _ _ _ (by simpa using ht), List.getElem!_toArray, List.getElem!_toArray];have h := encF_get hk l t ht;rw [List.getElem!_eq_getElem?_getD (l := encF enc l), h]; rfl
theorem putCells_list {F : List Value} {off : Nat} {c : Array Value} (h : off + F.length ≤ c.size) : (((Go.Sort.putCells id off F.toArray c).toList.drop off).take F.length) = F := by
 apply List.ext_getElem?
 intro t
 by_cases ht : t < F.length
 ·rw [List.getElem?_take_of_lt ht, List.getElem?_drop, Array.getElem?_toList];unfold Go.Sort.putCells;rw [Array.getElem?_mapIdx, Array.getElem?_eq_getElem (by omega)];simp only [Option.map_some, List.size_toArray];rw [if_pos (by omega), Nat.add_sub_cancel_left, id, List.getElem!_toArray, List.getElem!_eq_getElem?_getD, List.getElem?_eq_getElem ht]; rfl
 ·rw [List.getElem?_eq_none (by simp; omega), List.getElem?_eq_none (by omega)]
open Go.Sort in
theorem sw_heap {enc : α → List Value} {k : Nat} (w : World) (blk off m : Nat) (dk : Array α) (os : Array Obj) (b : Nat) (hb : b < w.heap.size) (hne : b ≠ blk) : (sortWorldK enc k w blk off m dk os).heap[b]? = w.heap[b]? := by
 unfold sortWorldK putRowK putRow mapBlock grow Go.Sort.ahead
 simp only
 rw [Array.getElem?_append_left (by simpa using hb), Array.getElem?_modify, if_neg (fun h => hne h.symm)]
open Go.Sort in
theorem sw_at {enc : α → List Value} {k : Nat} (w : World) (blk off m : Nat) (dk : Array α) (os : Array Obj) {cs : Array Value} {e : TypeId} (h : w.heap[blk]? = some (.cells cs e (0, 0))) : (sortWorldK enc k w blk off m dk os).heap[blk]? = some (.cells (putCells id off (Go.Sort.flatK enc k dk) cs) e (0, 0)) := by
 have hb := (Array.getElem?_eq_some_iff.1 h).1;unfold sortWorldK putRowK putRow mapBlock grow Go.Sort.ahead
 simp only
 rw [Array.getElem?_append_left (by simpa using hb), Array.getElem?_modify, if_pos rfl, h]
 rfl
theorem sw_size {enc : α → List Value} {k : Nat} (w : World) (blk off m : Nat) (dk : Array α) (os : Array Obj) : w.heap.size ≤ (sortWorldK enc k w blk off m dk os).heap.size := size_sortWorldK_c enc k w blk off m dk os
open Go.Sort in
theorem conB_sort {E : Env} {R : Go.Shelf.Ren} (L : SlLaysF0.n6 E.P R) {fid : FuncId} (hfid : R.f 6 = fid) (k : Nat) (aE : ∀ w, (isAgg (R.t 24)).run E.P w = .ok true w) (zE : ∀ w, (Go.sizeOf (R.t 24)).run E.P w = .ok k w) (enc : α → List Value) (hk : ∀ x, (enc x).length = k) (h1 : ∀ x, ∀ v ∈ enc x, v.oneCell' = true) (cf : α → α → Int) (hO : SWO (ltOf cf)) (g : Nat) (eg : ∀ args w, (callFunc g args).run E.P w = .ok (.enter g args) w)
  (Ed : Env) (hEP : Ed.P = E.P) (hEg : Ed.gl = E.gl) (hEd : Ed.dr = true) (hcon : ∀ x y, ConD Ed g [G.agg ((enc x).map G.lit), G.agg ((enc y).map G.lit)] (G.int (cf x y)))
  (l l' : List α) {N0 : Nat} (hN : l.length = N0) (hne : l ≠ []) (hlen : l.length < 4611686018427387904) (huniq : ∀ m : List α, m.Perm l → m.Pairwise (fun x y => ltOf cf y x = false) → m = l') {e : TypeId} :
  ConB E fid [.osl 0 k 0 N0, .g (.lit (.func (.func g) #[] #[]))] [(0, .arr e k (l.map fun x => (enc x).map G.lit))] (G.tup []) [(0, .arr e k (l'.map fun x => (enc x).map G.lit))] := by
 intro w M ρ vs hM hgl hdom hown hinj hblk hargs
 match vs, hargs with
 | [v0, v1], ⟨ha0, ha1, _⟩ =>
 have hv1 : v1 = .func (.func g) #[] #[] := ha1;subst hv1 hfid;have hpos := List.length_pos_iff.2 hne
 rcases hblk 0 _ rfl with ⟨_, h2⟩ | ⟨ow, cs, b1, b2, b3, b4, b5, b6, b7⟩
 ·exact absurd (List.map_eq_nil_iff.1 h2) hne
 rcases ha0 with ⟨q1, _⟩ | ⟨ow', q1, q2, q3, p, q4, q5⟩
 ·rw [b1] at q1; cases q1
 obtain rfl : ow' = ow := by rw [b1] at q1; simpa using q1.symm
 have hp : p = ow'.o := by have := q5 (by omega); simpa using this
 subst hp;rw [List.length_map] at b3 b7;rw [encF_lit] at b7;have hF := fitsL_lit b7
 have hsz : ow'.o + l.length * k ≤ cs.size := by
  rcases b5 with h | h
  ·omega
  ·have := Nat.mul_le_mul_right k b3
   omega
 have hlt := (Array.getElem?_eq_some_iff.1 b2).1
 have hcell : ∀ j, j < l.length * k → cs[ow'.o + j]? = (encF enc l)[j]? := by
  intro j hj;rw [← hF, List.getElem?_take_of_lt hj, List.getElem?_drop, Array.getElem?_toList]
 have hH : HoldsK enc k w ow'.b ow'.o l.toArray := by
  unfold HoldsK;rw [flatK_list hk];intro j hj;rw [List.size_toArray, encF_len hk] at hj
  constructor
  ·unfold World.cell?;simp only [b2];show (if (none : Option _).isSome = true then none else cs[ow'.o + j]?) = _;rw [if_neg (by simp), hcell j hj, id, List.getElem!_toArray, List.getElem!_eq_getElem?_getD];rw [List.getElem?_eq_getElem (by rw [encF_len hk]; exact hj)]; rfl
  ·unfold World.frozen?;simp only [b2]
   simp
 have hnb : ∀ b, owned M ρ b → b < w.heap.size := by
  rintro b (h | ⟨id, o, h, rfl⟩)
  ·exact hM b h
  ·exact (hown id o h).1
 have hob : owned M ρ ow'.b := .inr ⟨0, ow', b1, rfl⟩
 have hcmp : CmpLays E.P g #[] enc k cf ow'.b ow'.o l.toArray.size w := by
  intro m os dk hdk x y;have hW := sw_heap (enc := enc) (k := k) w ow'.b ow'.o m dk os;have hWs := sw_size (enc := enc) (k := k) w ow'.b ow'.o m dk os;generalize sortWorldK enc k w ow'.b ow'.o m dk os = W at hW hWs
  have hglW : GlOk Ed W (fun _ => False) := by
   intro gg vv hg;rw [hEg] at hg;have hq := hgl gg vv hg;exact ⟨⟨fun h => h, Nat.lt_of_lt_of_le hq.1.2 hWs⟩, hq.2.mono (fun b hb hno => hW b hb fun e => hno (e ▸ hob)) (fun _ _ h => h.elim) hq.1.1⟩
  have hc := hcon x y W (fun _ => False) [.agg (enc x).toArray, .agg (enc y).toArray] (fun _ h => h.elim) hglW ⟨⟨enc x, rfl, fitsL_of (h1 x)⟩, ⟨enc y, rfl, fitsL_of (h1 y)⟩, trivial⟩;rw [hEP] at hc;refine hc.mono ?_;rintro e' w' ⟨v, rfl, hgr, hv, hd⟩;have hv : v = .int .i64 (cf x y) := hv;subst hv;obtain ⟨pp, hpp⟩ := regrown_of_below hgr;have hd := hd hEd;rw [hpp] at hd;have hd : W.drawn ≤ pp.d := hd;refine ⟨rfl, pp.d - W.drawn, pp.os, ?_⟩;rw [hpp];unfold redrawn World.drewN;rw [Nat.add_sub_cancel' hd]
 have hmain := AnyQ.slices_SortFunc L k aE zE enc hk h1 cf hO g #[] ow'.b ow'.o ow'.cap l.toArray w eg hcmp hH hlt (by simpa using hlen)
 have hv0 : v0 = .slice (some ⟨ow'.b, ow'.o, none⟩) l.toArray.size ow'.cap := by rw [q4, ← hN]; simp
 subst hv0;refine hmain.mono ?_;rintro e' w' ⟨rfl, d', n, os, hp, hs, rfl⟩
 have hds : d'.size = l.length := by have := hp.1; simpa using this
 have hdl : d'.toList = l' := by
  refine huniq _ ?_ ?_
  ·have := hp.2.2;rw [show d'.extract 0 l.toArray.size = d' by rw [List.size_toArray, ← hds]; exact Array.extract_size, show l.toArray.extract 0 l.toArray.size = l.toArray from Array.extract_size] at this;exact this
  ·rw [List.pairwise_iff_getElem];intro i j hi hj hij;have := hs i j (Nat.zero_le _) hij (by rw [List.size_toArray, ← hds]; simpa using hj);rw [getElem!_pos d' j (by simpa using hj), getElem!_pos d' i (by simpa using hi)] at this
   simpa using this
 have hl' : l'.length = l.length := by rw [← hdl, Array.length_toList, hds]
 have hfl : Go.Sort.flatK enc k d' = (encF enc l').toArray := by
  rw [← hdl, ← flatK_list hk]
 refine ⟨.tuple #[], rfl, ⟨rfl, rfl, rfl, sw_size _ _ _ _ _ _, fun b hb hno => sw_heap _ _ _ _ _ _ b hb fun e => hno ⟨0, ow', b1, e ▸ rfl⟩⟩, fun id blk hi => ?_, ⟨[], rfl, trivial⟩⟩;simp only [List.mem_singleton, Prod.mk.injEq] at hi;obtain ⟨rfl, rfl⟩ := hi;refine .inr ⟨ow', _, b1, sw_at w ow'.b ow'.o n d' os b2, by rw [List.length_map]; omega, b4, ?_, ?_, ?_⟩
 ·rcases b5 with h | h
  ·exact .inl h
  ·exact .inr (by unfold putCells; simpa using h)
 ·intro c hc;obtain ⟨x, _, rfl⟩ := List.mem_map.1 hc;rw [List.length_map, hk]
 ·rw [List.length_map, encF_lit, hfl, ← encF_len hk l', putCells_list (by rw [encF_len hk, hl']; exact hsz)];refine fitsL_of fun v hv => ?_;obtain ⟨c, hc, hv⟩ := List.mem_flatten.1 hv;obtain ⟨x, _, rfl⟩ := List.mem_map.1 hc;exact h1 x v hv
end
end Go.Sim
set_option maxRecDepth 10000
namespace Go.Sim
open Go.Proofs
noncomputable abbrev ED (g : List (Nat × List Value)) : Env := ⟨Tryz.prog, g, tryzOrders, [], none, false, true⟩
theorem d202 {g : List (Nat × List Value)} (a0 : Int)    : ConD (ED g) 196 [G.int a0] (G.bool (s202 a0)) := by
 generalize hR : s202 a0 = R;unfold s202 at hR;refine conD_of_aw Tryz.func196 rfl rfl fun w0 M0 => ?_;refine aw_seq ?_;refine aw_region [.p] ?_;refine st rfl rfl (eff_assigng rfl rfl) rfl ?_;refine st_nil ?_;refine aw_seq ?_;refine aw_region [.p, .p, .p, .p] ?_;refine st rfl rfl (eff_moveg rfl rfl) rfl ?_;refine st rfl rfl (eff_moveg rfl rfl) rfl ?_;refine st rfl rfl (eff_neq rfl rfl rfl) rfl ?_;refine st rfl rfl (eff_assigng rfl rfl) rfl ?_;refine st_nil ?_;refine aw_ret ?_;subst hR;exact res_c rfl (rv_g rfl)
theorem d183 {g : List (Nat × List Value)} (a0 : ByteArray)    : ConD (ED g) 206 [G.str a0] (G.bool (s183 a0)) := by
 generalize hR : s183 a0 = R;unfold s183 at hR;refine conD_of_aw Tryz.func206 rfl rfl fun w0 M0 => ?_;refine aw_seq ?_;refine aw_region [.p] ?_;refine st rfl rfl (eff_assigng rfl rfl) rfl ?_;refine st_nil ?_;refine aw_seq ?_;refine aw_region [.p, .p, .p, .p] ?_;refine st rfl rfl (eff_moveg rfl rfl) rfl ?_;refine st rfl rfl (eff_moveg rfl rfl) rfl ?_;refine st rfl rfl (eff_sne rfl rfl rfl) rfl ?_;refine st rfl rfl (eff_assigng rfl rfl) rfl ?_;refine st_nil ?_;refine aw_ret ?_;subst hR;exact res_c rfl (rv_g rfl)
theorem d167 {g : List (Nat × List Value)} (a0 : Int) (a1 : Int)    : ConD (ED g) 122 [G.int a0, G.int a1] (G.int (s167 a0 a1)) := by
 generalize hR : s167 a0 a1 = R;unfold s167 at hR;refine conD_of_aw Tryz.func122 rfl rfl fun w0 M0 => ?_;refine aw_seq ?_;refine aw_region [.p] ?_;refine st rfl rfl (eff_assigng rfl rfl) rfl ?_;refine st_nil ?_;refine aw_seq ?_;refine aw_region [.p, .p, .p] ?_;refine st rfl rfl (eff_moveg rfl rfl) rfl ?_;refine st rfl rfl (eff_callD rfl K202 rfl (d202 a0) (ag_cons rfl ag_nil)) rfl ?_;refine st rfl rfl (eff_assigng rfl rfl) rfl ?_;refine st_nil ?_;refine aw_seq ?_;refine aw_region [.p, .p, .p] ?_;refine st rfl rfl (eff_moveg rfl rfl) rfl ?_;refine st rfl rfl (eff_callD rfl K202 rfl (d202 a1) (ag_cons rfl ag_nil)) rfl ?_;refine st rfl rfl (eff_assigng rfl rfl) rfl ?_;refine st_nil ?_;refine aw_seq ?_;refine aw_seq ?_;refine aw_region [.p] ?_;refine st rfl rfl (eff_moveg rfl rfl) rfl ?_;refine st_nil ?_;refine aw_cond _ rfl (fun h1 => ?_) (fun h1 => ?_)
 ·replace h1 : ((s202 a0)) = true := h1;replace hR := condT hR h1;(try simp only [Bool.or_eq_true, Bool.and_eq_true, Bool.or_eq_false_iff, Bool.and_eq_false_iff, Bool.not_eq_true', Bool.not_eq_false', decide_eq_true_eq, decide_eq_false_iff_not] at h1);refine aw_seq ?_;refine aw_seq ?_;refine aw_region [.p] ?_;refine st rfl rfl (eff_moveg rfl rfl) rfl ?_;refine st_nil ?_;refine aw_cond _ rfl (fun h2 => ?_) (fun h2 => ?_)
  ·replace h2 : ((s202 a1)) = true := h2;replace hR := condT hR h2;(try simp only [Bool.or_eq_true, Bool.and_eq_true, Bool.or_eq_false_iff, Bool.and_eq_false_iff, Bool.not_eq_true', Bool.not_eq_false', decide_eq_true_eq, decide_eq_false_iff_not] at h2);refine aw_seq ?_;refine aw_region [.p] ?_;refine st rfl rfl (eff_assigng rfl rfl) rfl ?_;refine st_nil ?_;refine aw_ret ?_;subst hR;exact res_c rfl (rv_g rfl)
  ·replace h2 : ((s202 a1)) = false := h2;replace hR := condF hR h2;(try simp only [Bool.or_eq_true, Bool.and_eq_true, Bool.or_eq_false_iff, Bool.and_eq_false_iff, Bool.not_eq_true', Bool.not_eq_false', decide_eq_true_eq, decide_eq_false_iff_not] at h2);refine aw_skip ?_;refine aw_seq ?_;refine aw_region [.p] ?_;refine st rfl rfl (eff_assigng rfl rfl) rfl ?_;refine st_nil ?_;refine aw_ret ?_;subst hR;exact res_c rfl (rv_g rfl)
 ·replace h1 : ((s202 a0)) = false := h1;replace hR := condF hR h1;(try simp only [Bool.or_eq_true, Bool.and_eq_true, Bool.or_eq_false_iff, Bool.and_eq_false_iff, Bool.not_eq_true', Bool.not_eq_false', decide_eq_true_eq, decide_eq_false_iff_not] at h1);refine aw_skip ?_;refine aw_seq ?_;refine aw_seq ?_;refine aw_region [.p] ?_;refine st rfl rfl (eff_moveg rfl rfl) rfl ?_;refine st_nil ?_;refine aw_cond _ rfl (fun h3 => ?_) (fun h3 => ?_)
  ·replace h3 : ((s202 a1)) = true := h3;replace hR := condT hR h3;(try simp only [Bool.or_eq_true, Bool.and_eq_true, Bool.or_eq_false_iff, Bool.and_eq_false_iff, Bool.not_eq_true', Bool.not_eq_false', decide_eq_true_eq, decide_eq_false_iff_not] at h3);refine aw_seq ?_;refine aw_region [.p] ?_;refine st rfl rfl (eff_assigng rfl rfl) rfl ?_;refine st_nil ?_;refine aw_ret ?_;subst hR;exact res_c rfl (rv_g rfl)
  ·replace h3 : ((s202 a1)) = false := h3;replace hR := condF hR h3;(try simp only [Bool.or_eq_true, Bool.and_eq_true, Bool.or_eq_false_iff, Bool.and_eq_false_iff, Bool.not_eq_true', Bool.not_eq_false', decide_eq_true_eq, decide_eq_false_iff_not] at h3);refine aw_skip ?_;refine aw_seq ?_;refine aw_seq ?_;refine aw_region [.p, .p, .p] ?_;refine st rfl rfl (eff_moveg rfl rfl) rfl ?_;refine st rfl rfl (eff_moveg rfl rfl) rfl ?_;refine st rfl rfl (eff_lss rfl rfl rfl) rfl ?_;refine st_nil ?_;refine aw_cond _ rfl (fun h4 => ?_) (fun h4 => ?_)
   ·replace h4 : (decide (a0 < a1)) = true := h4;replace hR := condT hR h4;(try simp only [Bool.or_eq_true, Bool.and_eq_true, Bool.or_eq_false_iff, Bool.and_eq_false_iff, Bool.not_eq_true', Bool.not_eq_false', decide_eq_true_eq, decide_eq_false_iff_not] at h4);refine aw_seq ?_;refine aw_region [.p] ?_;refine st rfl rfl (eff_assigng rfl rfl) rfl ?_;refine st_nil ?_;refine aw_ret ?_;subst hR;exact res_c rfl (rv_g rfl)
   ·replace h4 : (decide (a0 < a1)) = false := h4;replace hR := condF hR h4;(try simp only [Bool.or_eq_true, Bool.and_eq_true, Bool.or_eq_false_iff, Bool.and_eq_false_iff, Bool.not_eq_true', Bool.not_eq_false', decide_eq_true_eq, decide_eq_false_iff_not] at h4);refine aw_skip ?_;refine aw_seq ?_;refine aw_seq ?_;refine aw_region [.p, .p, .p] ?_;refine st rfl rfl (eff_moveg rfl rfl) rfl ?_;refine st rfl rfl (eff_moveg rfl rfl) rfl ?_;refine st rfl rfl (eff_gtr rfl rfl rfl) rfl ?_;refine st_nil ?_;refine aw_cond _ rfl (fun h5 => ?_) (fun h5 => ?_)
    ·replace h5 : (decide (a1 < a0)) = true := h5;replace hR := condT hR h5;(try simp only [Bool.or_eq_true, Bool.and_eq_true, Bool.or_eq_false_iff, Bool.and_eq_false_iff, Bool.not_eq_true', Bool.not_eq_false', decide_eq_true_eq, decide_eq_false_iff_not] at h5);refine aw_seq ?_;refine aw_region [.p] ?_;refine st rfl rfl (eff_assigng rfl rfl) rfl ?_;refine st_nil ?_;refine aw_ret ?_;subst hR;exact res_c rfl (rv_g rfl)
    ·replace h5 : (decide (a1 < a0)) = false := h5;replace hR := condF hR h5;(try simp only [Bool.or_eq_true, Bool.and_eq_true, Bool.or_eq_false_iff, Bool.and_eq_false_iff, Bool.not_eq_true', Bool.not_eq_false', decide_eq_true_eq, decide_eq_false_iff_not] at h5);refine aw_skip ?_;refine aw_seq ?_;refine aw_region [.p] ?_;refine st rfl rfl (eff_assigng rfl rfl) rfl ?_;refine st_nil ?_;refine aw_ret ?_;subst hR;exact res_c rfl (rv_g rfl)
theorem d133 {g : List (Nat × List Value)} (a0 : ByteArray) (a1 : ByteArray)    : ConD (ED g) 152 [G.str a0, G.str a1] (G.int (s133 a0 a1)) := by
 generalize hR : s133 a0 a1 = R;unfold s133 at hR;refine conD_of_aw Tryz.func152 rfl rfl fun w0 M0 => ?_;refine aw_seq ?_;refine aw_region [.p] ?_;refine st rfl rfl (eff_assigng rfl rfl) rfl ?_;refine st_nil ?_;refine aw_seq ?_;refine aw_region [.p, .p, .p] ?_;refine st rfl rfl (eff_moveg rfl rfl) rfl ?_;refine st rfl rfl (eff_callD rfl K183 rfl (d183 a0) (ag_cons rfl ag_nil)) rfl ?_;refine st rfl rfl (eff_assigng rfl rfl) rfl ?_;refine st_nil ?_;refine aw_seq ?_;refine aw_region [.p, .p, .p] ?_;refine st rfl rfl (eff_moveg rfl rfl) rfl ?_;refine st rfl rfl (eff_callD rfl K183 rfl (d183 a1) (ag_cons rfl ag_nil)) rfl ?_;refine st rfl rfl (eff_assigng rfl rfl) rfl ?_;refine st_nil ?_;refine aw_seq ?_;refine aw_seq ?_;refine aw_region [.p] ?_;refine st rfl rfl (eff_moveg rfl rfl) rfl ?_;refine st_nil ?_;refine aw_cond _ rfl (fun h1 => ?_) (fun h1 => ?_)
 ·replace h1 : ((s183 a0)) = true := h1;replace hR := condT hR h1;(try simp only [Bool.or_eq_true, Bool.and_eq_true, Bool.or_eq_false_iff, Bool.and_eq_false_iff, Bool.not_eq_true', Bool.not_eq_false', decide_eq_true_eq, decide_eq_false_iff_not] at h1);refine aw_seq ?_;refine aw_seq ?_;refine aw_region [.p] ?_;refine st rfl rfl (eff_moveg rfl rfl) rfl ?_;refine st_nil ?_;refine aw_cond _ rfl (fun h2 => ?_) (fun h2 => ?_)
  ·replace h2 : ((s183 a1)) = true := h2;replace hR := condT hR h2;(try simp only [Bool.or_eq_true, Bool.and_eq_true, Bool.or_eq_false_iff, Bool.and_eq_false_iff, Bool.not_eq_true', Bool.not_eq_false', decide_eq_true_eq, decide_eq_false_iff_not] at h2);refine aw_seq ?_;refine aw_region [.p] ?_;refine st rfl rfl (eff_assigng rfl rfl) rfl ?_;refine st_nil ?_;refine aw_ret ?_;subst hR;exact res_c rfl (rv_g rfl)
  ·replace h2 : ((s183 a1)) = false := h2;replace hR := condF hR h2;(try simp only [Bool.or_eq_true, Bool.and_eq_true, Bool.or_eq_false_iff, Bool.and_eq_false_iff, Bool.not_eq_true', Bool.not_eq_false', decide_eq_true_eq, decide_eq_false_iff_not] at h2);refine aw_skip ?_;refine aw_seq ?_;refine aw_region [.p] ?_;refine st rfl rfl (eff_assigng rfl rfl) rfl ?_;refine st_nil ?_;refine aw_ret ?_;subst hR;exact res_c rfl (rv_g rfl)
 ·replace h1 : ((s183 a0)) = false := h1;replace hR := condF hR h1;(try simp only [Bool.or_eq_true, Bool.and_eq_true, Bool.or_eq_false_iff, Bool.and_eq_false_iff, Bool.not_eq_true', Bool.not_eq_false', decide_eq_true_eq, decide_eq_false_iff_not] at h1);refine aw_skip ?_;refine aw_seq ?_;refine aw_seq ?_;refine aw_region [.p] ?_;refine st rfl rfl (eff_moveg rfl rfl) rfl ?_;refine st_nil ?_;refine aw_cond _ rfl (fun h3 => ?_) (fun h3 => ?_)
  ·replace h3 : ((s183 a1)) = true := h3;replace hR := condT hR h3;(try simp only [Bool.or_eq_true, Bool.and_eq_true, Bool.or_eq_false_iff, Bool.and_eq_false_iff, Bool.not_eq_true', Bool.not_eq_false', decide_eq_true_eq, decide_eq_false_iff_not] at h3);refine aw_seq ?_;refine aw_region [.p] ?_;refine st rfl rfl (eff_assigng rfl rfl) rfl ?_;refine st_nil ?_;refine aw_ret ?_;subst hR;exact res_c rfl (rv_g rfl)
  ·replace h3 : ((s183 a1)) = false := h3;replace hR := condF hR h3;(try simp only [Bool.or_eq_true, Bool.and_eq_true, Bool.or_eq_false_iff, Bool.and_eq_false_iff, Bool.not_eq_true', Bool.not_eq_false', decide_eq_true_eq, decide_eq_false_iff_not] at h3);refine aw_skip ?_;refine aw_seq ?_;refine aw_seq ?_;refine aw_region [.p, .p, .p] ?_;refine st rfl rfl (eff_moveg rfl rfl) rfl ?_;refine st rfl rfl (eff_moveg rfl rfl) rfl ?_;refine st rfl rfl (eff_slt rfl rfl rfl) rfl ?_;refine st_nil ?_;refine aw_cond _ rfl (fun h4 => ?_) (fun h4 => ?_)
   ·replace h4 : (strLt a0 a1) = true := h4;replace hR := condT hR h4;(try simp only [Bool.or_eq_true, Bool.and_eq_true, Bool.or_eq_false_iff, Bool.and_eq_false_iff, Bool.not_eq_true', Bool.not_eq_false', decide_eq_true_eq, decide_eq_false_iff_not] at h4);refine aw_seq ?_;refine aw_region [.p] ?_;refine st rfl rfl (eff_assigng rfl rfl) rfl ?_;refine st_nil ?_;refine aw_ret ?_;subst hR;exact res_c rfl (rv_g rfl)
   ·replace h4 : (strLt a0 a1) = false := h4;replace hR := condF hR h4;(try simp only [Bool.or_eq_true, Bool.and_eq_true, Bool.or_eq_false_iff, Bool.and_eq_false_iff, Bool.not_eq_true', Bool.not_eq_false', decide_eq_true_eq, decide_eq_false_iff_not] at h4);refine aw_skip ?_;refine aw_seq ?_;refine aw_seq ?_;refine aw_region [.p, .p, .p] ?_;refine st rfl rfl (eff_moveg rfl rfl) rfl ?_;refine st rfl rfl (eff_moveg rfl rfl) rfl ?_;refine st rfl rfl (eff_sgt rfl rfl rfl) rfl ?_;refine st_nil ?_;refine aw_cond _ rfl (fun h5 => ?_) (fun h5 => ?_)
    ·replace h5 : (!(strLt a0 a1 || decide (a0 = a1))) = true := h5;replace hR := condT hR h5;(try simp only [Bool.or_eq_true, Bool.and_eq_true, Bool.or_eq_false_iff, Bool.and_eq_false_iff, Bool.not_eq_true', Bool.not_eq_false', decide_eq_true_eq, decide_eq_false_iff_not] at h5);refine aw_seq ?_;refine aw_region [.p] ?_;refine st rfl rfl (eff_assigng rfl rfl) rfl ?_;refine st_nil ?_;refine aw_ret ?_;subst hR;exact res_c rfl (rv_g rfl)
    ·replace h5 : (!(strLt a0 a1 || decide (a0 = a1))) = false := h5;replace hR := condF hR h5;(try simp only [Bool.or_eq_true, Bool.and_eq_true, Bool.or_eq_false_iff, Bool.and_eq_false_iff, Bool.not_eq_true', Bool.not_eq_false', decide_eq_true_eq, decide_eq_false_iff_not] at h5);refine aw_skip ?_;refine aw_seq ?_;refine aw_region [.p] ?_;refine st rfl rfl (eff_assigng rfl rfl) rfl ?_;refine st_nil ?_;refine aw_ret ?_;subst hR;exact res_c rfl (rv_g rfl)
theorem d176 {g : List (Nat × List Value)} (a0 : List Int)    : ConD (ED g) 121 [G.sl 1 (List.map cInt a0)] (G.int (s176 a0)) := by
 generalize hR : s176 a0 = R;unfold s176 at hR;refine conD_of_aw Tryz.func121 rfl rfl fun w0 M0 => ?_;refine len_sl (f := cInt) (l := a0) 0 rfl fun hla0 => ?_;refine aw_seq ?_;refine aw_region [.p] ?_;refine st rfl rfl (eff_assigng rfl rfl) rfl ?_;refine st_nil ?_;refine aw_seq ?_;refine aw_region [.p] ?_;refine st rfl rfl (eff_assigng rfl rfl) rfl ?_;refine st_nil ?_;refine aw_seq ?_;refine aw_seq ?_;refine aw_region [.p, .p, .p] ?_;refine st rfl rfl (eff_moveg rfl rfl) rfl ?_;refine st rfl rfl (eff_lenM (f := cInt) (l := a0) rfl Tryz.underlying64 rfl) rfl ?_;refine st rfl rfl (eff_moveg rfl rfl) rfl ?_;refine st_nil ?_;refine aw_block ?_;refine aw_loop_g (γ := Nat × (List Int)) (fun g => ([(3, .g (G.int 0)), (6, .g (G.sl 1 (List.map cInt a0))), (7, .g (G.int (List.length a0 : Int))), (8, .g (G.int ((g.1 : Nat) : Int)))], [])) (fun g => a0.drop g.1 = g.2 ∧ s176_l1  g.2 g.1 = R) (fun g => List.length g.2) ⟨rfl, (0, a0), ⟨rfl, rfl, rfl, rfl, trivial⟩, trivial, rfl, ⟨rfl, hR⟩, trivial⟩ ?_
 ·rintro ⟨k2, t4⟩ ⟨hd, hR⟩;replace hd : a0.drop k2 = t4 := hd;replace hR : s176_l1  t4 k2 = R := hR;refine aw_seq ?_;refine aw_region [.p] ?_;refine st rfl rfl (eff_lss rfl rfl rfl) rfl ?_;refine st_nil ?_;refine len_sl (f := cInt) (l := a0) 6 rfl fun hlz1 => ?_;refine aw_seq ?_;refine aw_cond _ rfl (fun h1 => ?_) (fun h1 => ?_)
  ·replace h1 : (decide (((k2 : Nat) : Int) < (List.length a0 : Int))) = true := h1;obtain ⟨y3, t4, rfl, hx1, hd⟩ := drop_cons hd (decT h1);replace h1 := decT h1;rw [s176_l1] at hR;(try dsimp only at hR);refine aw_skip ?_;refine aw_seq ?_;refine aw_block ?_;refine aw_seq ?_;refine aw_region [.p, .p, .p] ?_;refine st rfl rfl (eff_ix (f := cInt) (l := a0) (a := y3) rfl Tryz.underlying64 ty3 rfl rfl (Int.natCast_nonneg _) hx1) rfl ?_;refine st rfl rfl (eff_load rfl ty3 rfl) rfl ?_;refine st rfl rfl (eff_assigng rfl rfl) rfl ?_;refine st_nil ?_;refine aw_seq ?_;refine aw_region [.p, .p, .p] ?_;refine st rfl rfl (eff_moveg rfl rfl) rfl ?_;refine st rfl rfl (eff_moveg rfl rfl) rfl ?_;refine st rfl rfl (eff_neq rfl rfl rfl) rfl ?_;refine st_nil ?_;refine aw_cond _ rfl (fun h3 => ?_) (fun h3 => ?_)
   ·replace h3 : (decide (y3 ≠ 0)) = true := h3;replace hR := condT hR h3;(try simp only [Bool.or_eq_true, Bool.and_eq_true, Bool.or_eq_false_iff, Bool.and_eq_false_iff, Bool.not_eq_true', Bool.not_eq_false', decide_eq_true_eq, decide_eq_false_iff_not] at h3);refine aw_seq ?_;refine aw_region [.p, .p] ?_;refine st rfl rfl (eff_moveg rfl rfl) rfl ?_;refine st rfl rfl (eff_assigng rfl rfl) rfl ?_;refine st_nil ?_;refine aw_ret ?_;subst hR;exact res_c rfl (rv_g rfl)
   ·replace h3 : (decide (y3 ≠ 0)) = false := h3;replace hR := condF hR h3;(try simp only [Bool.or_eq_true, Bool.and_eq_true, Bool.or_eq_false_iff, Bool.and_eq_false_iff, Bool.not_eq_true', Bool.not_eq_false', decide_eq_true_eq, decide_eq_false_iff_not] at h3);refine aw_skip ?_;refine aw_region [.p, .p] ?_;refine st rfl rfl (eff_add rfl rfl rfl (by unfold I64; omega)) rfl ?_;refine st rfl rfl (eff_moveg rfl rfl) rfl ?_;refine st_nil ?_;exact ⟨rfl, (k2 + 1, t4), ⟨rfl, rfl, rfl, rfl, trivial⟩, trivial, rfl, ⟨hd, hR⟩, by simp⟩
  ·replace h1 : (decide (((k2 : Nat) : Int) < (List.length a0 : Int))) = false := h1;obtain rfl := drop_nil hd (decF h1);rw [s176_l1] at hR;refine aw_exit ?_;refine aw_seq ?_;refine aw_region [.p, .p] ?_;refine st rfl rfl (eff_moveg rfl rfl) rfl ?_;refine st rfl rfl (eff_assigng rfl rfl) rfl ?_;refine st_nil ?_;refine aw_ret ?_;subst hR;exact res_c rfl (rv_g rfl)
theorem d175 {g : List (Nat × List Value)} (a0 : S151) (a1 : S151)    : ConD (ED g) 151 [G.agg [G.str a0.Name, G.int a0.Moment, G.str a0.Kind], G.agg [G.str a1.Name, G.int a1.Moment, G.str a1.Kind]] (G.int (s175 a0 a1)) := by
 generalize hR : s175 a0 a1 = R;unfold s175 at hR;refine conD_of_aw Tryz.func151 rfl rfl fun w0 M0 => ?_;refine aw_seq ?_;refine aw_region [.p, .p, .p] ?_;refine st rfl rfl (eff_box rfl rfl) rfl ?_;refine st rfl rfl (eff_box rfl rfl) rfl ?_;refine st rfl rfl (eff_assigng rfl rfl) rfl ?_;refine st_nil ?_;refine aw_seq ?_;refine aw_draw [.p, .p, .p, .p, .p, .p, .p, .p, .p, .p, .p, .p, .p, .p, .p, .p, .p, .p] (by kernel_rfl) ?_;refine st rfl rfl (eff_fieldAddr rfl fl152_1 rfl) rfl ?_;refine st rfl rfl (eff_load rfl ty3 rfl) rfl ?_;refine st rfl rfl (eff_fieldAddr rfl fl152_1 rfl) rfl ?_;refine st rfl rfl (eff_load rfl ty3 rfl) rfl ?_;refine st rfl rfl (eff_callD rfl K167 rfl (d167 a0.Moment a1.Moment) (ag_cons rfl (ag_cons rfl ag_nil))) rfl ?_;refine st rfl rfl (eff_fieldAddr rfl fl152_0 rfl) rfl ?_;refine st rfl rfl (eff_load rfl ty9 rfl) rfl ?_;refine st rfl rfl (eff_fieldAddr rfl fl152_0 rfl) rfl ?_;refine st rfl rfl (eff_load rfl ty9 rfl) rfl ?_;refine st rfl rfl (eff_callD rfl K133 rfl (d133 a0.Name a1.Name) (ag_cons rfl (ag_cons rfl ag_nil))) rfl ?_;refine st rfl rfl (eff_fieldAddr rfl fl152_2 rfl) rfl ?_;refine st rfl rfl (eff_load rfl ty9 rfl) rfl ?_;refine st rfl rfl (eff_fieldAddr rfl fl152_2 rfl) rfl ?_;refine st rfl rfl (eff_load rfl ty9 rfl) rfl ?_;refine st rfl rfl (eff_callD rfl K133 rfl (d133 a0.Kind a1.Kind) (ag_cons rfl (ag_cons rfl ag_nil))) rfl ?_;refine st rfl rfl (eff_buildSlice rfl Tryz.underlying64 ty3 z3 rfl (ps_cons rfl (ps_cons rfl (ps_cons rfl ps_nil))) rfl (by simp []) (by decide)) rfl ?_;refine st rfl rfl (eff_callD rfl K176 rfl (d176 [(s167 a0.Moment a1.Moment), (s133 a0.Name a1.Name), (s133 a0.Kind a1.Kind)]) (ag_cons rfl ag_nil)) rfl ?_;refine st rfl rfl (eff_assigng rfl rfl) rfl ?_;refine st_nil ?_;refine aw_ret ?_;subst hR;exact res_c rfl (rv_g rfl)
end Go.Sim
namespace Go.Proofs
open Go.Shelf
def sortSlots_ren : Go.Shelf.Ren := ⟨fun | 6 => 150 | 15 => 179 | 14 => 205 | 28 => 223 | 29 => 224 | 20 => 246 | 21 => 247 | 22 => 248 | 23 => 249 | 24 => 250 | 25 => 251 | 26 => 252 | 27 => 253 | 46 => 287 | 47 => 271 | 48 => 272 | 49 => 288 | 50 => 289 | 57 => 306 | n => n, fun | 22 => 39 | 24 => 110 | 25 => 234 | 3 => 3 | 39 => 255 | 0 => 0 | 53 => 294 | 55 => 296 | 4 => 4 | 46 => 287 | 45 => 286 | 50 => 291 | 5 => 5 | 9 => 9 | 66 => 330 | 70 => 334 | 76 => 347 | 77 => 348 | n => n, fun | n => n⟩
theorem sortSlots : Go.Proofs.SlLaysF0.n6 Tryz.prog sortSlots_ren := {
 mixed := by kernel_rfl
 f6 := ⟨Tryz.f150.name, by decide, Tryz.func150.trans (congrArg some (by kernel_rfl))⟩
 f14 := ⟨Tryz.f205.name, by decide, Tryz.func205.trans (congrArg some (by kernel_rfl))⟩
 f15 := Tryz.func179.trans (congrArg some (by kernel_rfl))
 f20 := ⟨Tryz.f246.name, by decide, Tryz.func246.trans (congrArg some (by kernel_rfl))⟩
 f21 := ⟨Tryz.f247.name, by decide, Tryz.func247.trans (congrArg some (by kernel_rfl))⟩
 f22 := ⟨Tryz.f248.name, by decide, Tryz.func248.trans (congrArg some (by kernel_rfl))⟩
 f23 := ⟨Tryz.f249.name, by decide, Tryz.func249.trans (congrArg some (by kernel_rfl))⟩
 f24 := ⟨Tryz.f250.name, by decide, Tryz.func250.trans (congrArg some (by kernel_rfl))⟩
 f25 := ⟨Tryz.f251.name, by decide, Tryz.func251.trans (congrArg some (by kernel_rfl))⟩
 f26 := ⟨Tryz.f252.name, by decide, Tryz.func252.trans (congrArg some (by kernel_rfl))⟩
 f27 := ⟨Tryz.f253.name, by decide, Tryz.func253.trans (congrArg some (by kernel_rfl))⟩
 f28 := Tryz.func223.trans (congrArg some (by kernel_rfl))
 f29 := Tryz.func224.trans (congrArg some (by kernel_rfl))
 f46 := ⟨Tryz.f287.name, by decide, Tryz.func287.trans (congrArg some (by kernel_rfl))⟩
 f47 := Tryz.func271.trans (congrArg some (by kernel_rfl))
 f48 := Tryz.func272.trans (congrArg some (by kernel_rfl))
 f49 := ⟨Tryz.f288.name, by decide, Tryz.func288.trans (congrArg some (by kernel_rfl))⟩
 f50 := ⟨Tryz.f289.name, by decide, Tryz.func289.trans (congrArg some (by kernel_rfl))⟩
 f57 := ⟨Tryz.f306.name, by decide, Tryz.func306.trans (congrArg some (by kernel_rfl))⟩
 t0 := Tryz.underlying0
 a0 := Tryz.isAgg0
 z0 := Tryz.sizeOf0
 v0 := Tryz.zeroValue0
 t3 := Tryz.underlying3
 a3 := Tryz.isAgg3
 z3 := Tryz.sizeOf3
 v3 := Tryz.zeroValue3
 t4 := Tryz.underlying4
 a4 := Tryz.isAgg4
 z4 := Tryz.sizeOf4
 v4 := Tryz.zeroValue4
 t5 := Tryz.underlying5
 a5 := Tryz.isAgg5
 z5 := Tryz.sizeOf5
 v5 := Tryz.zeroValue5
 t9 := Tryz.underlying9
 a9 := Tryz.isAgg9
 z9 := Tryz.sizeOf9
 v9 := Tryz.zeroValue9
 t22 := Tryz.underlying39
 a22 := Tryz.isAgg39
 z22 := Tryz.sizeOf39
 v22 := Tryz.zeroValue39
 t25 := Tryz.underlying234
 a25 := Tryz.isAgg234
 z25 := Tryz.sizeOf234
 v25 := Tryz.zeroValue234
 t39 := Tryz.underlying255
 a39 := Tryz.isAgg255
 z39 := Tryz.sizeOf255
 v39 := Tryz.zeroValue255
 t45 := Tryz.underlying286
 a45 := Tryz.isAgg286
 z45 := Tryz.sizeOf286
 v45 := Tryz.zeroValue286
 t46 := Tryz.underlying287
 a46 := Tryz.isAgg287
 z46 := Tryz.sizeOf287
 v46 := Tryz.zeroValue287
 t50 := Tryz.underlying291
 a50 := Tryz.isAgg291
 z50 := Tryz.sizeOf291
 v50 := Tryz.zeroValue291
 t53 := Tryz.underlying294
 a53 := Tryz.isAgg294
 z53 := Tryz.sizeOf294
 v53 := Tryz.zeroValue294
 t55 := Tryz.underlying296
 a55 := Tryz.isAgg296
 z55 := Tryz.sizeOf296
 v55 := Tryz.zeroValue296
 t66 := Tryz.underlying330
 a66 := Tryz.isAgg330
 z66 := Tryz.sizeOf330
 v66 := Tryz.zeroValue330
 t70 := Tryz.underlying334
 a70 := Tryz.isAgg334
 z70 := Tryz.sizeOf334
 v70 := Tryz.zeroValue334
 t76 := Tryz.underlying347
 a76 := Tryz.isAgg347
 z76 := Tryz.sizeOf347
 v76 := Tryz.zeroValue347
 t77 := Tryz.underlying348
 a77 := Tryz.isAgg348
 z77 := Tryz.sizeOf348
 v77 := Tryz.zeroValue348 }
end Go.Proofs
namespace Go.Sim
open Go.Proofs
theorem lt175 (x y : S151) : ltOf s175 x y = !(s127 y x) := s175_lt x y
theorem s127_rfl (x : S151) : s127 x x = true := by
 cases h : s127 x x with
 | true => rfl
 | false => exact (s127_tot h) ▸ h.symm ▸ rfl
theorem swo175 : Go.Sort.SWO (ltOf s175) where
 irrefl x := by rw [lt175, s127_rfl]; rfl
 trans x y z h1 h2 := by
  rw [lt175] at h1 h2 ⊢
  cases h : s127 z x with
  | false => rfl
  | true =>
   have h3 : s127 x y = true := s127_tot (by simpa using h1);have h4 := s127_tr z x y h h3;rw [h4] at h2; cases h2
 ntrans x y z h1 h2 := by
  rw [lt175] at h1 h2 ⊢
  have h3 : s127 y x = true := by simpa using h1
  have h4 : s127 z y = true := by simpa using h2
  rw [s127_tr z y x h4 h3]; rfl
def encS (x : S151) : List Value := [.string x.Name, .int .i64 x.Moment, .string x.Kind]
theorem c174G (a0 : List S151) (a1 : S151 → S151 → Option Int) {R : List S151} {N0 : Nat} (hN0 : List.length a0 = N0) {ca1 : G} {ia1 : FuncId} {ka1 : List G} (ha1 : FnIs ca1 ia1 ka1) (Ka1 : Known Tryz.prog ia1) (Ha1 : ∀ (x0 : S151) (x1 : S151) (r : Int), a1 x0 x1 = some r → Con (EG glT) ia1 ([G.agg [G.str x0.Name, G.int x0.Moment, G.str x0.Kind], G.agg [G.str x1.Name, G.int x1.Moment, G.str x1.Kind]] ++ ka1) (G.int r)) (he : ca1 = .lit (.func (.func 151) #[] #[])) (ha : a1 = fun x y => some (s175 x y)) (hB : List.length a0 ≤ 1000) (hR : s174 a0 a1 = some R) : ConB (EG glT) 150 [.osl 0 3 0 N0, .g (ca1)] [(0, .arr 110 3 (List.map S151.c a0))] (G.tup []) [(0, .arr 110 3 (List.map S151.c R))] := by
 by_cases h12 : (List.length a0 : Int) ≤ 12
 ·exact c174 a0 a1 hN0 ha1 Ka1 Ha1 h12 hR
 subst he ha;rw [s174_ok (lt := fun a b => !(s127 b a)) (fun y _ x _ => ⟨_, rfl, s175_lt x y⟩)] at hR
 cases hR
 have h1 : ∀ x : S151, ∀ v ∈ encS x, v.oneCell' = true := fun x v hv => by
  unfold encS at hv;simp only [List.mem_cons, List.not_mem_nil, or_false] at hv
  rcases hv with rfl | rfl | rfl <;> rfl
 have eg : ∀ args w, (callFunc 151 args).run Tryz.prog w = .ok (.enter 151 args) w := enters_of Tryz.func151 (by kernel_rfl) rfl;refine conB_sort (E := EG glT) (R := sortSlots_ren) sortSlots (fid := 150) rfl 3 Tryz.isAgg110 Tryz.sizeOf110 encS (fun _ => rfl) h1 s175 swo175 151 eg (ED glT) rfl rfl rfl (fun x y => d175 x y) a0 (isort (fun a b => !(s127 b a)) a0) hN0 (by rintro rfl; simp at h12) (by omega) (fun m hp hs => ?_) (e := 110);refine sorted_unique (Rel := fun a b => s127 a b = true) (hp.trans (isort_perm _ _).symm) (hs.imp fun {x y} h => ?_) ?_ fun x _ y _ h k => s127_as h k
 ·rw [lt175] at h; simpa using h
 ·refine isort_sorted s127_tr ?_;refine List.pairwise_of_forall fun y x => ?_;exact ⟨fun h => s127_tot (by simpa using h), fun h => by simpa using h⟩
theorem fly_upG {l : List S104} {r : List S151} (h : s121 l = some r) : SortOk r := by
 rw [s121_ok] at h
 cases h
 refine .inr ((flyL_sorted l).imp fun {a b} hab => ?_);rw [s127_iff] at hab
 omega
end Go.Sim
set_option maxRecDepth 10000
namespace Go.Sim
open Go.Proofs
theorem nc121G (a0 : List S104) {R : List S151}  (hb0 : a0.length ≤ 1000) (hR : s121 a0 = some R) : ConN (EG glT) 82 [G.sl 8 (List.map S104.c a0)] 110 3 (List.map S151.c R) := by
 unfold s121 at hR;refine conN_of_aw Tryz.func82 rfl rfl fun w0 M0 => ?_;refine len_sl (f := S104.c) (l := a0) 0 rfl fun hla0 => ?_;have hq1 := len171 a0 s172;have hq2 := len170 (s171 a0 s172) s173;refine aw_seq ?_;refine aw_region [.w] ?_;refine sw (eff_nilL 2 110 3 rfl rfl rfl) rfl ?_;refine st_nil ?_;refine aw_seq ?_;refine aw_region [.p, .p, .w, .p] ?_;refine sm rfl rfl ?_;refine su (eff_call rfl K171 rfl (c171W a0 s172 fnis_lit K172 (fun x0 => c172 x0) iA) (ag_cons rfl (ag_cons rfl ag_nil))) rfl ?_;refine sw (eff_callNL (f0 := S151.c) (l := s170 (s171 a0 s172) s173) 6 rfl K170 rfl (nc170W (s171 a0 s172) s173 fnis_lit K173 (fun x0 => c173 x0) iA) (ag_cons rfl (ag_cons rfl ag_nil)) rfl) rfl ?_;refine su (eff_assignO rfl rfl) rfl ?_;refine st_nil ?_;refine aw_seq ?_;obtain ⟨r1, br1, hR⟩ := bindO_inv hR;refine aw_region [.p, .w] ?_;refine su (eff_moveO rfl rfl) rfl ?_;refine sw (eff_callB1 0 6 rfl K174 rfl (c174G (s170 (s171 a0 s172) s173) (fun x0_ x1_ => some (s175 x0_ x1_)) rfl fnis_lit K175 (fun x0_ x1_ r_ h_ => Option.some.inj h_ ▸ (fun x0 x1 => c175 x0 x1) x0_ x1_) rfl rfl (by omega) br1) (at_cons rfl rfl (at_cons rfl rfl at_nil)) rfl rfl rfl) rfl ?_;refine st_nil ?_;refine aw_seq ?_;refine aw_region [.p, .p] ?_;refine su (eff_moveO rfl rfl) rfl ?_;refine su (eff_assignO rfl rfl) rfl ?_;refine st_nil ?_;refine aw_ret ?_;obtain rfl := Option.some.inj hR;exact doneN_own rfl rfl rfl ((List.length_map ..).trans ((len174 br1).trans rfl))
theorem c121G (a0 : List S104) {R : List S151}  (hb0 : a0.length ≤ 1000) (hR : s121 a0 = some R) : Con (EG glT) 82 [G.sl 8 (List.map S104.c a0)] (G.sl 3 (List.map S151.c R)) :=
 ConN.con (by decide) (nc121G a0 hb0 hR)
theorem nc124G (a0 : S23) (a1 : List S151) (a2 : List S104) {R : List Int}  (hb1 : a1.length ≤ 1000) (hb2 : a2.length ≤ 1000) (hs1 : SortOk a1) (hR : s124 a0 a1 a2 = some R) : ConN (EG glT) 37 [G.agg [G.int a0.Before, G.int a0.After, G.int a0.Notice, G.int a0.Share, G.sl 1 (List.map cStr a0.Causes), G.int a0.Off, G.int a0.Run], G.sl 3 (List.map S151.c a1), G.sl 8 (List.map S104.c a2)] 3 1 (List.map cInt R) := by
 unfold s124 at hR;refine conN_of_aw Tryz.func37 rfl rfl fun w0 M0 => ?_;refine len_sl (f := S151.c) (l := a1) 1 rfl fun hla1 => ?_;refine len_sl (f := S104.c) (l := a2) 2 rfl fun hla2 => ?_;refine aw_seq ?_;refine aw_region [.p, .w] ?_;refine su (eff_box rfl rfl) rfl ?_;refine sw (eff_nilL 6 3 1 rfl rfl rfl) rfl ?_;refine st_nil ?_;refine aw_seq ?_;refine aw_region [.p, .p, .w, .p] ?_;refine sm rfl rfl ?_;refine su (eff_lenM (f := S151.c) (l := a1) rfl Tryz.underlying39 rfl) rfl ?_;refine sw (eff_makeS (f := cInt) (z := 0) 16 rfl mk82 rfl rfl rfl (by first | exact Int.le_refl _ | omega) (by first | decide | omega) rfl rfl rfl) rfl ?_;refine su (eff_assignO rfl rfl) rfl ?_;refine st_nil ?_;refine aw_seq ?_;refine aw_region [.w] ?_;refine sw (eff_nilL 8 110 3 rfl rfl rfl) rfl ?_;refine st_nil ?_;refine aw_seq ?_;refine aw_region [.w] ?_;refine sw (eff_nilL 9 3 1 rfl rfl rfl) rfl ?_;refine st_nil ?_;refine aw_seq ?_;refine aw_seq ?_;refine aw_region [.p, .p, .p] ?_;refine sm rfl rfl ?_;refine su (eff_lenM (f := S151.c) (l := a1) rfl Tryz.underlying39 rfl) rfl ?_;refine sm rfl rfl ?_;refine st_nil ?_;refine aw_block ?_;refine aw_loop_g (γ := Nat × (List S151) × (List S151) × (List Int) × (List Int)) (fun g => ([(2, .g (G.sl 8 (List.map S104.c a2))), (3, .g (G.ref [G.int a0.Before, G.int a0.After, G.int a0.Notice, G.int a0.Share, G.sl 1 (List.map cStr a0.Causes), G.int a0.Off, G.int a0.Run])), (7, .osl 16 1 0 (List.length a1)), (8, .osl 8 3 0 (List.length g.2.2.1)), (9, .osl 9 1 0 (List.length g.2.2.2.1)), (17, .g (G.sl 3 (List.map S151.c a1))), (18, .g (G.int (List.length a1 : Int))), (19, .g (G.int ((g.1 : Nat) : Int)))], [(8, .arr 110 3 (List.map S151.c g.2.2.1)), (9, .arr 3 1 (List.map cInt g.2.2.2.1)), (16, .arr 3 1 (List.map cInt g.2.2.2.2))])) (fun g => g.2.2.1.length ≤ g.1 ∧ g.2.2.2.1.length ≤ g.1 ∧ g.1 ≤ a1.length ∧ g.2.2.1.Sublist (List.take g.1 a1) ∧ List.length g.2.2.2.2 = List.length a1 ∧ a1.drop g.1 = g.2.1 ∧ s124_l1 a0 a2 g.2.1 g.1 g.2.2.1 g.2.2.2.1 g.2.2.2.2 = some R) (fun g => List.length g.2.1) ⟨rfl, (0, a1, [], [], List.replicate (List.length a1) 0), ⟨rfl, rfl, rfl, rfl, rfl, rfl, rfl, rfl, trivial⟩, ⟨rfl, rfl, rfl, trivial⟩, rfl, ⟨iH, iH, iH, (List.nil_sublist _), List.length_replicate, rfl, hR⟩, trivial⟩ ?_
 ·rintro ⟨k6, t8, x1, x2, x4⟩ ⟨iv1_0, iv1_1, iv1_2, iv1_3, ln5, hd, hR⟩;replace hd : a1.drop k6 = t8 := hd;replace hR : s124_l1 a0 a2 t8 k6 x1 x2 x4 = some R := hR;replace iv1_0 : x1.length ≤ k6 := iv1_0;replace iv1_1 : x2.length ≤ k6 := iv1_1;replace iv1_2 : k6 ≤ a1.length := iv1_2;replace iv1_3 : x1.Sublist (List.take k6 a1) := iv1_3;replace ln5 : List.length x4 = List.length a1 := ln5;refine aw_seq ?_;refine aw_region [.p] ?_;refine su (eff_lss rfl rfl rfl) rfl ?_;refine st_nil ?_;refine len_sl (f := S151.c) (l := a1) 17 rfl fun hlz1 => ?_;refine aw_seq ?_;refine aw_cond _ rfl (fun h1 => ?_) (fun h1 => ?_)
  ·replace h1 : (decide (((k6 : Nat) : Int) < (List.length a1 : Int))) = true := h1;obtain ⟨y7, t8, rfl, hx1, hd⟩ := drop_cons hd (decT h1);replace h1 := decT h1;rw [s124_l1] at hR;(try dsimp only at hR);refine aw_skip ?_;refine aw_cut_g (γ := (List S151) × (List Int) × (List Int)) (fun g => ([(2, .g (G.sl 8 (List.map S104.c a2))), (3, .g (G.ref [G.int a0.Before, G.int a0.After, G.int a0.Notice, G.int a0.Share, G.sl 1 (List.map cStr a0.Causes), G.int a0.Off, G.int a0.Run])), (7, .osl 16 1 0 (List.length a1)), (8, .osl 8 3 0 (List.length g.1)), (9, .osl 9 1 0 (List.length g.2.1)), (17, .g (G.sl 3 (List.map S151.c a1))), (18, .g (G.int (List.length a1 : Int))), (19, .g (G.int ((k6 : Nat) : Int)))], [(8, .arr 110 3 (List.map S151.c g.1)), (9, .arr 3 1 (List.map cInt g.2.1)), (16, .arr 3 1 (List.map cInt g.2.2))])) (fun g => g.1.length ≤ k6 + 1 ∧ g.2.1.length ≤ k6 + 1 ∧ g.1.Sublist (List.take (k6 + 1) a1) ∧ List.length g.2.2 = List.length a1 ∧ s124_j1 (fun k_ z0_ z1_ z2_ => s124_l1 a0 a2 t8 k_ z0_ z1_ z2_) k6 g.1 g.2.1 g.2.2 = some R) ?_ ?_
   ·refine aw_block ?_;refine aw_seq ?_;refine aw_region [.p, .p, .p, .w, .p, .w] ?_;refine sm rfl rfl ?_;refine su (eff_ix (f := S151.c) (l := a1) (a := y7) rfl Tryz.underlying39 ty152 rfl rfl (Int.natCast_nonneg _) hx1) rfl ?_;refine su (eff_loadA rfl ty152 rfl rfl rfl) rfl ?_;refine sw (eff_alloc 11 rfl z152 rfl rfl) rfl ?_;refine sa rfl rfl ?_;refine st_wn rfl rfl (eff_store (tv := .g (G.agg [G.str y7.Name, G.int y7.Moment, G.str y7.Kind])) rfl ty152 rfl rfl rfl rfl rfl) ?_;refine st_nil ?_;refine aw_cut_g (γ := (List Int)) (fun g => ([(2, .g (G.sl 8 (List.map S104.c a2))), (3, .g (G.ref [G.int a0.Before, G.int a0.After, G.int a0.Notice, G.int a0.Share, G.sl 1 (List.map cStr a0.Causes), G.int a0.Off, G.int a0.Run])), (7, .osl 16 1 0 (List.length a1)), (8, .osl 8 3 0 (List.length x1)), (9, .osl 9 1 0 (List.length x2)), (10, .g (G.int ((k6 : Nat) : Int))), (11, .ptr 11 0), (17, .g (G.sl 3 (List.map S151.c a1))), (18, .g (G.int (List.length a1 : Int))), (19, .g (G.int ((k6 : Nat) : Int)))], [(8, .arr 110 3 (List.map S151.c x1)), (9, .arr 3 1 (List.map cInt x2)), (11, .box [.g (G.str y7.Name), .g (G.int y7.Moment), .g (G.str y7.Kind)]), (16, .arr 3 1 (List.map cInt g))])) (fun g => List.length g = List.length a1 ∧ s124_j2 (fun k_ z0_ z1_ z2_ => s124_l1 a0 a2 t8 k_ z0_ z1_ z2_) x1 x2 k6 y7 g = some R) ?_ ?_
    ·refine aw_block ?_;refine aw_seq ?_;refine aw_region [.p, .r, .p, .p, .p] ?_;refine su (eff_loadA rfl ty24 rfl rfl rfl) rfl ?_;refine sr (eff_loadOA rfl ty152 rfl rfl rfl rfl) rfl ?_;refine sm rfl rfl ?_;refine su (eff_call rfl K177 rfl (c177 a0 y7 a2) (ag_cons rfl (ag_cons rfl (ag_cons rfl ag_nil)))) rfl ?_;refine sa rfl rfl ?_;refine st_nil ?_;refine aw_cond _ rfl (fun h5 => ?_) (fun h5 => ?_)
     ·replace h5 : ((s177 a0 y7 a2)) = true := h5;replace hR := condT hR h5;(try simp only [bB] at h5);refine aw_seq ?_;obtain ⟨y25, by25, hR⟩ := bindO_inv hR;refine aw_region [.p, .p, .p, .w] ?_;refine su (eff_moveO rfl rfl) rfl ?_;refine sm rfl rfl ?_;refine su (eff_ixL rfl Tryz.underlying64 ty3 rfl rfl (ixO_nn by25) (Nat.lt_of_lt_of_eq (get_lt (ixO_get by25)) ln5)) rfl ?_;refine st_wn rfl rfl (eff_setL (f := cInt) (l := x4) (a' := 0) rfl ty3 rfl rfl rfl (Nat.lt_of_lt_of_eq (Nat.lt_of_lt_of_eq (get_lt (ixO_get by25)) ln5) (Eq.symm ln5)) rfl (fun _ => rfl)) ?_;refine st_nil ?_;refine aw_exit ?_;exact ⟨rfl, (x1, x2, List.set x4 (Int.toNat ((k6 : Nat) : Int)) 0), ⟨rfl, rfl, rfl, rfl, rfl, rfl, rfl, rfl, trivial⟩, ⟨rfl, rfl, rfl, trivial⟩, rfl, ⟨iC, iC, (by first | exact sub_skip iv1_3 | exact sub_snoc iv1_3 hx1), ((List.length_set ..).trans ln5), hR⟩, trivial⟩
     ·replace h5 : ((s177 a0 y7 a2)) = false := h5;replace hR := condF hR h5;(try simp only [bB] at h5);refine aw_seq ?_;refine aw_region [.p, .r, .p, .p, .p] ?_;refine su (eff_loadA rfl ty24 rfl rfl rfl) rfl ?_;refine sr (eff_loadOA rfl ty152 rfl rfl rfl rfl) rfl ?_;refine sm rfl rfl ?_;refine su (eff_call rfl K178 rfl (c178 a0 y7 a2) (ag_cons rfl (ag_cons rfl (ag_cons rfl ag_nil)))) rfl ?_;refine sa rfl rfl ?_;refine st_nil ?_;refine aw_cond _ rfl (fun h6 => ?_) (fun h6 => ?_)
      ·replace h6 : ((s178 a0 y7 a2)) = true := h6;replace hR := condT hR h6;(try simp only [bB] at h6);obtain ⟨y26, by26, hR⟩ := bindO_inv hR;refine aw_region [.p, .p, .p, .w] ?_;refine su (eff_moveO rfl rfl) rfl ?_;refine sm rfl rfl ?_;refine su (eff_ixL rfl Tryz.underlying64 ty3 rfl rfl (ixO_nn by26) (Nat.lt_of_lt_of_eq (get_lt (ixO_get by26)) ln5)) rfl ?_;refine st_wn rfl rfl (eff_setL (f := cInt) (l := x4) (a' := 2) rfl ty3 rfl rfl rfl (Nat.lt_of_lt_of_eq (Nat.lt_of_lt_of_eq (get_lt (ixO_get by26)) ln5) (Eq.symm ln5)) rfl (fun _ => rfl)) ?_;refine st_nil ?_;exact ⟨rfl, List.set x4 (Int.toNat ((k6 : Nat) : Int)) 2, ⟨rfl, rfl, rfl, rfl, rfl, rfl, rfl, rfl, rfl, rfl, trivial⟩, ⟨rfl, rfl, rfl, rfl, trivial⟩, rfl, ⟨((List.length_set ..).trans ln5), hR⟩, trivial⟩
      ·replace h6 : ((s178 a0 y7 a2)) = false := h6;replace hR := condF hR h6;(try simp only [bB] at h6);obtain ⟨y27, by27, hR⟩ := bindO_inv hR;refine aw_region [.p, .p, .p, .w] ?_;refine su (eff_moveO rfl rfl) rfl ?_;refine sm rfl rfl ?_;refine su (eff_ixL rfl Tryz.underlying64 ty3 rfl rfl (ixO_nn by27) (Nat.lt_of_lt_of_eq (get_lt (ixO_get by27)) ln5)) rfl ?_;refine st_wn rfl rfl (eff_setL (f := cInt) (l := x4) (a' := 3) rfl ty3 rfl rfl rfl (Nat.lt_of_lt_of_eq (Nat.lt_of_lt_of_eq (get_lt (ixO_get by27)) ln5) (Eq.symm ln5)) rfl (fun _ => rfl)) ?_;refine st_nil ?_;exact ⟨rfl, List.set x4 (Int.toNat ((k6 : Nat) : Int)) 3, ⟨rfl, rfl, rfl, rfl, rfl, rfl, rfl, rfl, rfl, rfl, trivial⟩, ⟨rfl, rfl, rfl, rfl, trivial⟩, rfl, ⟨((List.length_set ..).trans ln5), hR⟩, trivial⟩
    ·rintro x23 ⟨ln24, hR⟩;replace ln24 : List.length x23 = List.length a1 := ln24;replace hR : s124_j2 (fun k_ z0_ z1_ z2_ => s124_l1 a0 a2 t8 k_ z0_ z1_ z2_) x1 x2 k6 y7 x23 = some R := hR;unfold s124_j2 at hR;refine aw_region [.p, .r, .p, .k, .p, .p, .p, .k, .p, .p] ?_;refine su (eff_moveO rfl rfl) rfl ?_;refine sr (eff_loadOA rfl ty152 rfl rfl rfl rfl) rfl ?_;refine su (eff_buildSlice rfl Tryz.underlying39 ty152 z152 rfl (ps_cons rfl ps_nil) rfl (by simp [S151.c]) (by decide)) rfl ?_;refine st_k rfl rfl (eff_appL (f := S151.c) (out := x1) (new := [y7]) rfl app25 rfl rfl (src_eq rfl (src_sl (by decide) (by simp [S151.c]))) (refsN rfl) (by simp; omega)) rfl ?_;refine su (eff_moveO rfl rfl) rfl ?_;refine sm rfl rfl ?_;refine su (eff_buildSlice rfl Tryz.underlying64 ty3 z3 rfl (ps_cons rfl ps_nil) rfl (by simp []) (by decide)) rfl ?_;refine st_k rfl rfl (eff_appL (f := cInt) (out := x2) (new := [((k6 : Nat) : Int)]) rfl app82 rfl rfl (src_eq rfl (src_sl (by decide) (by simp []))) (refsN rfl) (by simp; omega)) rfl ?_;refine su (eff_assignO rfl rfl) rfl ?_;refine su (eff_assignO rfl rfl) rfl ?_;refine st_nil ?_;exact ⟨rfl, (x1 ++ [y7], x2 ++ [((k6 : Nat) : Int)], x23), ⟨rfl, rfl, rfl, rfl, rfl, rfl, rfl, rfl, trivial⟩, ⟨rfl, rfl, rfl, trivial⟩, rfl, ⟨iC, iC, (by first | exact sub_skip iv1_3 | exact sub_snoc iv1_3 hx1), ln24, hR⟩, trivial⟩
   ·rintro ⟨x19, x20, x21⟩ ⟨jv2_0, jv2_1, jv2_2, ln22, hR⟩;replace jv2_0 : x19.length ≤ k6 + 1 := jv2_0;replace jv2_1 : x20.length ≤ k6 + 1 := jv2_1;replace jv2_2 : x19.Sublist (List.take (k6 + 1) a1) := jv2_2;replace ln22 : List.length x21 = List.length a1 := ln22;replace hR : s124_j1 (fun k_ z0_ z1_ z2_ => s124_l1 a0 a2 t8 k_ z0_ z1_ z2_) k6 x19 x20 x21 = some R := hR;unfold s124_j1 at hR;refine aw_region [.p, .p] ?_;refine su (eff_add rfl rfl rfl iE) rfl ?_;refine sm rfl rfl ?_;refine st_nil ?_;exact ⟨rfl, (k6 + 1, t8, x19, x20, x21), ⟨rfl, rfl, rfl, rfl, rfl, rfl, rfl, rfl, trivial⟩, ⟨rfl, rfl, rfl, trivial⟩, rfl, ⟨iB, iB, iB, (by assumption), ln22, hd, hR⟩, by simp⟩
  ·replace h1 : (decide (((k6 : Nat) : Int) < (List.length a1 : Int))) = false := h1;obtain rfl := drop_nil hd (decF h1);rw [s124_l1] at hR;refine aw_exit ?_;refine aw_seq ?_;refine aw_seq ?_;obtain ⟨r9, br9, hR⟩ := bindO_inv hR;obtain ⟨r10, br10, hR⟩ := bindO_inv hR;have hl9 := len121 br9;refine aw_draw [.p, .p, .p, .p, .r, .p, .p] (by kernel_rfl) ?_;refine su (eff_loadA rfl ty24 rfl rfl rfl) rfl ?_;refine su (eff_moveO rfl rfl) rfl ?_;refine sm rfl rfl ?_;refine su (eff_call rfl K121 rfl (c121G a2 (by omega) br9) (ag_cons rfl ag_nil)) rfl ?_;refine sr (eff_callNO rfl K115 rfl (nc115W a0 x1 r9 iA iA (sortok_sub iv1_3 hs1) (fly_upG br9) br10) (by decide) (pureL_flat fun _ => pureL_cons (pureL_cons (pureL_nil))) (agv_cons rfl (agv_osl rfl rfl (agv_cons rfl agv_nil)))) rfl ?_;refine su (eff_lenM (f := S154.c) (l := r10) rfl Tryz.underlying163 rfl) rfl ?_;refine sm rfl rfl ?_;refine st_nil ?_;refine aw_block ?_;refine aw_loop_g (γ := Nat × (List S154) × (List Int)) (fun g => ([(7, .osl 16 1 0 (List.length a1)), (9, .osl 9 1 0 (List.length x2)), (56, .g (G.sl 2 (List.map S154.c r10))), (57, .g (G.int (List.length r10 : Int))), (58, .g (G.int ((g.1 : Nat) : Int)))], [(9, .arr 3 1 (List.map cInt x2)), (16, .arr 3 1 (List.map cInt g.2.2))])) (fun g => List.length g.2.2 = List.length a1 ∧ r10.drop g.1 = g.2.1 ∧ s124_l2 x2 g.2.1 g.1 g.2.2 = some R) (fun g => List.length g.2.1) ⟨rfl, (0, r10, x4), ⟨rfl, rfl, rfl, rfl, rfl, trivial⟩, ⟨rfl, rfl, trivial⟩, rfl, ⟨ln5, rfl, hR⟩, trivial⟩ ?_
   ·rintro ⟨k14, t16, x12⟩ ⟨ln13, hd, hR⟩;replace hd : r10.drop k14 = t16 := hd;replace hR : s124_l2 x2 t16 k14 x12 = some R := hR;replace ln13 : List.length x12 = List.length a1 := ln13;refine aw_seq ?_;refine aw_region [.p] ?_;refine su (eff_lss rfl rfl rfl) rfl ?_;refine st_nil ?_;refine len_sl (f := S154.c) (l := r10) 56 rfl fun hlz2 => ?_;refine aw_seq ?_;refine aw_cond _ rfl (fun h3 => ?_) (fun h3 => ?_)
    ·replace h3 : (decide (((k14 : Nat) : Int) < (List.length r10 : Int))) = true := h3;obtain ⟨y15, t16, rfl, hx2, hd⟩ := drop_cons hd (decT h3);replace h3 := decT h3;rw [s124_l2] at hR;(try dsimp only at hR);refine aw_skip ?_;refine aw_seq ?_;refine aw_block ?_;refine aw_seq ?_;refine aw_region [.p, .p, .w, .w] ?_;refine su (eff_ix (f := S154.c) (l := r10) (a := y15) rfl Tryz.underlying163 ty155 rfl rfl (Int.natCast_nonneg _) hx2) rfl ?_;refine su (eff_loadA rfl ty155 rfl rfl rfl) rfl ?_;refine sw (eff_alloc 13 rfl z155 rfl rfl) rfl ?_;refine st_wn rfl rfl (eff_store (tv := .g (G.agg [G.int y15.Slot, G.int y15.Record])) rfl ty155 rfl rfl rfl rfl rfl) ?_;refine st_nil ?_;obtain ⟨y17, by17, hR⟩ := bindO_inv hR;obtain ⟨y18, by18, hR⟩ := bindO_inv hR;refine aw_region [.p, .p, .p, .r, .p, .r, .p, .w] ?_;refine su (eff_moveO rfl rfl) rfl ?_;refine su (eff_moveO rfl rfl) rfl ?_;refine su (eff_fieldO rfl fl155_0 rfl) rfl ?_;refine sr (eff_loadO rfl ty3 rfl rfl rfl) rfl ?_;refine su (eff_ixL rfl Tryz.underlying64 ty3 rfl rfl (ixO_nn by17) (Nat.lt_of_lt_of_eq (get_lt (ixO_get by17)) rfl)) rfl ?_;refine sr (eff_ldE (f := cInt) (l := x2) (a := y17) rfl ty3 rfl rfl (ixO_get by17) rfl) rfl ?_;refine su (eff_ixL rfl Tryz.underlying64 ty3 rfl rfl (ixO_nn by18) (Nat.lt_of_lt_of_eq (get_lt (ixO_get by18)) ln13)) rfl ?_;refine st_wn rfl rfl (eff_setL (f := cInt) (l := x12) (a' := 1) rfl ty3 rfl rfl rfl (Nat.lt_of_lt_of_eq (Nat.lt_of_lt_of_eq (get_lt (ixO_get by18)) ln13) (Eq.symm ln13)) rfl (fun _ => rfl)) ?_;refine st_nil ?_;refine aw_region [.p, .p] ?_;refine su (eff_add rfl rfl rfl iE) rfl ?_;refine sm rfl rfl ?_;refine st_nil ?_;exact ⟨rfl, (k14 + 1, t16, List.set x12 (Int.toNat y17) 1), ⟨rfl, rfl, rfl, rfl, rfl, trivial⟩, ⟨rfl, rfl, trivial⟩, rfl, ⟨((List.length_set ..).trans ln13), hd, hR⟩, by simp⟩
    ·replace h3 : (decide (((k14 : Nat) : Int) < (List.length r10 : Int))) = false := h3;obtain rfl := drop_nil hd (decF h3);rw [s124_l2] at hR;refine aw_exit ?_;refine aw_seq ?_;refine aw_region [.p, .p] ?_;refine su (eff_moveO rfl rfl) rfl ?_;refine su (eff_assignO rfl rfl) rfl ?_;refine st_nil ?_;refine aw_ret ?_;obtain rfl := Option.some.inj hR;exact doneN_own rfl rfl rfl ((List.length_map ..).trans ln13)
theorem c124G (a0 : S23) (a1 : List S151) (a2 : List S104) {R : List Int}  (hb1 : a1.length ≤ 1000) (hb2 : a2.length ≤ 1000) (hs1 : SortOk a1) (hR : s124 a0 a1 a2 = some R) : Con (EG glT) 37 [G.agg [G.int a0.Before, G.int a0.After, G.int a0.Notice, G.int a0.Share, G.sl 1 (List.map cStr a0.Causes), G.int a0.Off, G.int a0.Run], G.sl 3 (List.map S151.c a1), G.sl 8 (List.map S104.c a2)] (G.sl 1 (List.map cInt R)) :=
 ConN.con (by decide) (nc124G a0 a1 a2 hb1 hb2 hs1 hR)
end Go.Sim
