/-
  What is proved: the statement of topChockLots holds: at every input the law returns true and leaves its arguments as they read; its conditions are the row's own.
-/
import Derived.Test.YtnknncfgbefpeaaGreatVrB5
import Derived.Test.YtnknncfgbefpeaaGreatVrB7
set_option linter.unusedSectionVars false
set_option linter.unusedSimpArgs false
set_option linter.unusedVariables false
set_option linter.unnecessarySimpa false
set_option linter.deprecated false
namespace Go.Proofs.YtnknncfgbefpeaaGreat
theorem qpb (w : World) : laidMetH Tryz.prog laid2 w := ⟨[], rfl, List.nodup_nil, fun b off h => by cases h⟩
theorem qbd (os : Os) (started : os.Started) (H : Type) (enc : TypeId × Value → H) :
  ReturnsInHanded {} Tryz.checked os 3 .any (fun w args => Rows.topChockLotsSpec.pre enc Tryz.prog Tryz.f3 [] false w args ∧ sizedMet enc Tryz.prog Tryz.f3 (OpenSpec.ofChange Rows.topChockLotsSpec) false w args)
   (Rows.topChockLotsSpec.post enc Tryz.prog Tryz.f3 false true false false) := by
 have h := topChockLots_lifted os started H enc
 have e : (fun w args => (Rows.topChockLotsSpec.pre enc Tryz.prog Tryz.f3 [] false w args ∧ laidMetH Tryz.prog laid2 w) ∧ sizedMet enc Tryz.prog Tryz.f3 (OpenSpec.ofChange Rows.topChockLotsSpec) false w args) = (fun w args => Rows.topChockLotsSpec.pre enc Tryz.prog Tryz.f3 [] false w args ∧ sizedMet enc Tryz.prog Tryz.f3 (OpenSpec.ofChange Rows.topChockLotsSpec) false w args) := by
  funext w args
  exact propext ⟨fun h => ⟨h.1.1, h.2⟩, fun h => ⟨⟨h.1, qpb w⟩, h.2⟩⟩
 rw [e] at h;exact h
theorem topChockLots_holds : Rows.TopChockLotsSaid :=
 OpenClaim.holds_of_wide 3 Tryz.f3 rfl rfl rfl rfl rfl rfl rfl ⟨rfl, rfl, rfl, rfl, rfl⟩ rfl rfl rfl rfl rfl qt5 Tryz.func3 qrk qwv qww
  (fun os started H enc _ => qbd os started H enc)
end Go.Proofs.YtnknncfgbefpeaaGreat
