/-
  What is proved: lemmas and contracts of functions on the way to the law topBeaconTurns (part 13).
-/
import Derived.Test.YtkeegnagpekgmaaGreatVrA5
import Derived.Test.YtkeegnagpekgmaaGreatVrB3
set_option linter.unusedSectionVars false
set_option linter.unusedSimpArgs false
set_option linter.unusedVariables false
set_option linter.unnecessarySimpa false
set_option linter.deprecated false
namespace Go.Proofs.YtkeegnagpekgmaaGreat
open Go.ChangeShapes Go.WideShapes Go.ChangeAt Go.WideMaps Go.WideElems Go.RowKit
open Go.Sim
theorem sh29 : shOf Tryz.prog 9 29 = some [.num .u16, .num .u16, .num .u8, .num .u8] := by kernel_rfl
theorem is_S2028 {gs : List G} (h : Is [.num .u16, .num .u16, .num .u8, .num .u8] gs) : ∃ x : S2028, StOk x ∧ gs = S2028.c x := by
 cases h with
 | num n0 p0 q0 h =>
  cases h with
  | num n1 p1 q1 h =>
   cases h with
   | num n2 p2 q2 h =>
    cases h with
    | num n3 p3 q3 h =>
     cases h
     exact ⟨⟨n0, n1, n2, n3⟩, ⟨p0, q0, p1, q1, p2, q2, p3, q3⟩, rfl⟩
theorem list_of2 {α : Type} {P : α → Prop} {f : α → List G} : ∀ {xs : List (List G)}, (∀ c ∈ xs, ∃ x, P x ∧ c = f x) → ∃ l : List α, (∀ x ∈ l, P x) ∧ xs = l.map f
 | [], _ => ⟨[], by simp, rfl⟩
 | c :: xs, h => by
  obtain ⟨x, hx, rfl⟩ := h _ (List.mem_cons_self ..);obtain ⟨l, hl, rfl⟩ := list_of2 fun c hc => h c (List.mem_cons_of_mem _ hc);exact ⟨x :: l, fun y hy => by rcases List.mem_cons.1 hy with rfl | hy; exact hx; exact hl y hy, rfl⟩
set_option maxRecDepth 100000 in
theorem topBeaconTurns_lifted (os : Os) (started : os.Started) (H : Type) (enc : TypeId × Value → H) :
  ReturnsInHanded {} Tryz.checked os 3 .any (fun w args => (Rows.topBeaconTurnsSpec.pre enc Tryz.prog Tryz.f3 [] false w args ∧ laidMetH Tryz.prog laid2 w) ∧ sizedMet enc Tryz.prog Tryz.f3 (OpenSpec.ofChange Rows.topBeaconTurnsSpec) false w args)
   (Rows.topBeaconTurnsSpec.post enc Tryz.prog Tryz.f3 false true false false) := by
 refine returnsInHanded_of_change_and (C := Tryz.checked) (X := fun w _ => laidMetH Tryz.prog laid2 w) (fun _ _ _ hh h => h.of_heap hh) own started (by kernel_rfl) Tryz.func3
  (ChangeSpec.witness_shaped (enc := enc) (C := Tryz.checked) (os := os) (X := fun w _ => laidMetH Tryz.prog laid2 w) false (World.doorLaid Tryz.prog 400 os) #[.slice none 0 0, .int .i64 0] 8 rfl (World.shaped_of_RefB (by kernel_rfl) (by kernel_rfl)) (by kernel_rfl) (by kernel_rfl) (by kernel_rfl) (door_met os _)) ?_
 intro W base args ds gs before hval0 hW _ hsz hL _;have hval : ∀ (j : Nat) t v, Tryz.f3.params[j]? = some t → args[j]? = some v → Value.okWide Tryz.prog W .any base t v := hval0;have hW' := hW;obtain ⟨p, q, hA0, hV, rfl, _, _⟩ := hW;have hA : DataW.TrodAll enc Tryz.prog W 0 (fun _ => true) true Tryz.f3.params.toList args.toList ds p := hA0;rw [Tryz.params3] at hA hval;obtain ⟨v0, v1, d0, d1, p0, p1, rfl, rfl, rfl, h0, h1⟩ := trodAll_two hA;obtain ⟨rfl, rfl⟩ := trodVars_none hV;obtain ⟨xs0, k0, f0, e0⟩ := arg_slice Tryz.underlying22 sh29 (by kernel_rfl) (hval 0 22 v0 rfl rfl) h0;obtain ⟨a0, ha0, rfl⟩ := list_of2 fun c hc => is_S2028 (k0 c hc);obtain ⟨a1, f1, rfl⟩ := arg_int Tryz.underlying3 (hval 1 3 v1 rfl rfl) h1;have hc := c2003 a0 a1 (s2003_true a0 a1 ha0) W (fun _ => False) [v0, .int .i64 a1] (fun _ h => h.elim) (glOk_of_laid hL) ⟨f0, f1, trivial⟩;refine hc.mono fun e W' => ?_;rintro ⟨v, rfl, hg, hv⟩;have hv : v = .bool true := hv;subst hv;exact ⟨_, rfl, post_law laidOut Tryz.underlying4 hW' rfl rfl (by rw [Tryz.params3]; decide +kernel) rfl hg⟩
end Go.Proofs.YtkeegnagpekgmaaGreat
