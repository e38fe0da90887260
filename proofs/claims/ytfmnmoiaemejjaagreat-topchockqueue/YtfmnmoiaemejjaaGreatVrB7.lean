/-
  What is proved: the statement of topChockQueue holds: at every input the law returns true and leaves its arguments as they read; its conditions are the row's own.
-/
import Derived.Test.YtfmnmoiaemejjaaGreatVrB4
import Derived.Test.YtfmnmoiaemejjaaGreatVrB6
set_option linter.unusedSectionVars false
set_option linter.unusedSimpArgs false
set_option linter.unusedVariables false
set_option linter.unnecessarySimpa false
set_option linter.deprecated false
namespace Go.Proofs.YtfmnmoiaemejjaaGreat
theorem qx0 (w : World) : laidMetH Tryz.prog laid2 w := ⟨[], rfl, List.nodup_nil, fun b off h => by cases h⟩
theorem qfl (os : Os) (started : os.Started) (H : Type) (enc : TypeId × Value → H) :
  ReturnsInHanded {} Tryz.checked os 4 .any (fun w args => Rows.topChockQueueSpec.pre enc Tryz.prog Tryz.f4 [] false w args ∧ sizedMet enc Tryz.prog Tryz.f4 (OpenSpec.ofChange Rows.topChockQueueSpec) false w args)
   (Rows.topChockQueueSpec.post enc Tryz.prog Tryz.f4 false true false false) := by
 have h := topChockQueue_lifted os started H enc
 have e : (fun w args => (Rows.topChockQueueSpec.pre enc Tryz.prog Tryz.f4 [] false w args ∧ laidMetH Tryz.prog laid2 w) ∧ sizedMet enc Tryz.prog Tryz.f4 (OpenSpec.ofChange Rows.topChockQueueSpec) false w args) = (fun w args => Rows.topChockQueueSpec.pre enc Tryz.prog Tryz.f4 [] false w args ∧ sizedMet enc Tryz.prog Tryz.f4 (OpenSpec.ofChange Rows.topChockQueueSpec) false w args) := by
  funext w args
  exact propext ⟨fun h => ⟨h.1.1, h.2⟩, fun h => ⟨⟨h.1, qx0 w⟩, h.2⟩⟩
 rw [e] at h;exact h
theorem topChockQueue_holds : Rows.TopChockQueueSaid :=
 OpenClaim.holds_of_wide 4 Tryz.f4 rfl rfl rfl rfl rfl rfl rfl ⟨rfl, rfl, rfl, rfl, rfl⟩ rfl rfl rfl rfl rfl q4n Tryz.func4 q1s q78 q79
  (fun os started H enc _ => qfl os started H enc)
end Go.Proofs.YtfmnmoiaemejjaaGreat
