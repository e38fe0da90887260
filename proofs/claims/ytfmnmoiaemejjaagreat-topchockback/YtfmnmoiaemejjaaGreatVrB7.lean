/-
  What is proved: the statement of topChockBack holds: at every input the law returns true and leaves its arguments as they read; its conditions are the row's own.
-/
import Derived.Test.YtfmnmoiaemejjaaGreatVrB4
import Derived.Test.YtfmnmoiaemejjaaGreatVrB6
set_option linter.unusedSectionVars false
set_option linter.unusedSimpArgs false
set_option linter.unusedVariables false
set_option linter.unnecessarySimpa false
set_option linter.deprecated false
namespace Go.Proofs.YtfmnmoiaemejjaaGreat
theorem qyi (w : World) : laidMetH Tryz.prog laid2 w := ⟨[], rfl, List.nodup_nil, fun b off h => by cases h⟩
theorem qf1 (os : Os) (started : os.Started) (H : Type) (enc : TypeId × Value → H) :
  ReturnsInHanded {} Tryz.checked os 3 .any (fun w args => Rows.topChockBackSpec.pre enc Tryz.prog Tryz.f3 [] false w args ∧ sizedMet enc Tryz.prog Tryz.f3 (OpenSpec.ofChange Rows.topChockBackSpec) false w args)
   (Rows.topChockBackSpec.post enc Tryz.prog Tryz.f3 false true false false) := by
 have h := topChockBack_lifted os started H enc
 have e : (fun w args => (Rows.topChockBackSpec.pre enc Tryz.prog Tryz.f3 [] false w args ∧ laidMetH Tryz.prog laid2 w) ∧ sizedMet enc Tryz.prog Tryz.f3 (OpenSpec.ofChange Rows.topChockBackSpec) false w args) = (fun w args => Rows.topChockBackSpec.pre enc Tryz.prog Tryz.f3 [] false w args ∧ sizedMet enc Tryz.prog Tryz.f3 (OpenSpec.ofChange Rows.topChockBackSpec) false w args) := by
  funext w args
  exact propext ⟨fun h => ⟨h.1.1, h.2⟩, fun h => ⟨⟨h.1, qyi w⟩, h.2⟩⟩
 rw [e] at h;exact h
theorem topChockBack_holds : Rows.TopChockBackSaid :=
 OpenClaim.holds_of_wide 3 Tryz.f3 rfl rfl rfl rfl rfl rfl rfl ⟨rfl, rfl, rfl, rfl, rfl⟩ rfl rfl rfl rfl rfl q5m Tryz.func3 q2s q8v q8w
  (fun os started H enc _ => qf1 os started H enc)
end Go.Proofs.YtfmnmoiaemejjaaGreat
