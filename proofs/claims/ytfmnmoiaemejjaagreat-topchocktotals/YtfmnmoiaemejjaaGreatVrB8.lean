/-
  What is proved: the statement of topChockTotals holds: at every input the law returns true and leaves its arguments as they read; its conditions are the row's own.
-/
import Derived.Test.YtfmnmoiaemejjaaGreatVrB5
import Derived.Test.YtfmnmoiaemejjaaGreatVrB7
set_option linter.unusedSectionVars false
set_option linter.unusedSimpArgs false
set_option linter.unusedVariables false
set_option linter.unnecessarySimpa false
set_option linter.deprecated false
namespace Go.Proofs.YtfmnmoiaemejjaaGreat
theorem q1j (w : World) : laidMetH Tryz.prog laid2 w := ⟨[], rfl, List.nodup_nil, fun b off h => by cases h⟩
theorem qf2 (os : Os) (started : os.Started) (H : Type) (enc : TypeId × Value → H) :
  ReturnsInHanded {} Tryz.checked os 5 .any (fun w args => Rows.topChockTotalsSpec.pre enc Tryz.prog Tryz.f5 [] false w args ∧ sizedMet enc Tryz.prog Tryz.f5 (OpenSpec.ofChange Rows.topChockTotalsSpec) false w args)
   (Rows.topChockTotalsSpec.post enc Tryz.prog Tryz.f5 false true false false) := by
 have h := topChockTotals_lifted os started H enc
 have e : (fun w args => (Rows.topChockTotalsSpec.pre enc Tryz.prog Tryz.f5 [] false w args ∧ laidMetH Tryz.prog laid2 w) ∧ sizedMet enc Tryz.prog Tryz.f5 (OpenSpec.ofChange Rows.topChockTotalsSpec) false w args) = (fun w args => Rows.topChockTotalsSpec.pre enc Tryz.prog Tryz.f5 [] false w args ∧ sizedMet enc Tryz.prog Tryz.f5 (OpenSpec.ofChange Rows.topChockTotalsSpec) false w args) := by
  funext w args
  exact propext ⟨fun h => ⟨h.1.1, h.2⟩, fun h => ⟨⟨h.1, q1j w⟩, h.2⟩⟩
 rw [e] at h;exact h
theorem topChockTotals_holds : Rows.TopChockTotalsSaid :=
 OpenClaim.holds_of_wide 5 Tryz.f5 rfl rfl rfl rfl rfl rfl rfl ⟨rfl, rfl, rfl, rfl, rfl⟩ rfl rfl rfl rfl rfl q6c Tryz.func5 q3o q9z q90
  (fun os started H enc _ => qf2 os started H enc)
end Go.Proofs.YtfmnmoiaemejjaaGreat
