/-
  What is proved: the statement of topBeaconHours holds: at every input the law returns true and leaves its arguments as they read; its conditions are the row's own.
-/
import Derived.Test.YtkeegnagpekgmaaGreatVrB4
import Derived.Test.YtkeegnagpekgmaaGreatVrB6
set_option linter.unusedSectionVars false
set_option linter.unusedSimpArgs false
set_option linter.unusedVariables false
set_option linter.unnecessarySimpa false
set_option linter.deprecated false
namespace Go.Proofs.YtkeegnagpekgmaaGreat
theorem laid_nil (w : World) : laidMetH Tryz.prog laid2 w := ⟨[], rfl, List.nodup_nil, fun b off h => by cases h⟩
theorem topBeaconHours_plain (os : Os) (started : os.Started) (H : Type) (enc : TypeId × Value → H) :
  ReturnsInHanded {} Tryz.checked os 4 .any (fun w args => Rows.topBeaconHoursSpec.pre enc Tryz.prog Tryz.f4 [] false w args ∧ sizedMet enc Tryz.prog Tryz.f4 (OpenSpec.ofChange Rows.topBeaconHoursSpec) false w args)
   (Rows.topBeaconHoursSpec.post enc Tryz.prog Tryz.f4 false true false false) := by
 have h := topBeaconHours_lifted os started H enc
 have e : (fun w args => (Rows.topBeaconHoursSpec.pre enc Tryz.prog Tryz.f4 [] false w args ∧ laidMetH Tryz.prog laid2 w) ∧ sizedMet enc Tryz.prog Tryz.f4 (OpenSpec.ofChange Rows.topBeaconHoursSpec) false w args) = (fun w args => Rows.topBeaconHoursSpec.pre enc Tryz.prog Tryz.f4 [] false w args ∧ sizedMet enc Tryz.prog Tryz.f4 (OpenSpec.ofChange Rows.topBeaconHoursSpec) false w args) := by
  funext w args
  exact propext ⟨fun h => ⟨h.1.1, h.2⟩, fun h => ⟨⟨h.1, laid_nil w⟩, h.2⟩⟩
 rw [e] at h;exact h
theorem topBeaconHours_holds : Rows.TopBeaconHoursSaid :=
 OpenClaim.holds_of_wide 4 Tryz.f4 rfl rfl rfl rfl rfl rfl rfl ⟨rfl, rfl, rfl, rfl, rfl⟩ rfl rfl rfl rfl rfl named4 Tryz.func4 closed4 inst4 wrap4
  (fun os started H enc _ => topBeaconHours_plain os started H enc)
end Go.Proofs.YtkeegnagpekgmaaGreat
