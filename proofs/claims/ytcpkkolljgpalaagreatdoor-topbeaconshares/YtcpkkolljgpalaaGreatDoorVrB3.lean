/-
  What is proved: lemmas and contracts of functions on the way to the law topBeaconShares (part 12).
-/
import Derived.Test.YtcpkkolljgpalaaGreatDoorVrA8
set_option linter.unusedSectionVars false
set_option linter.unusedSimpArgs false
set_option linter.unusedVariables false
set_option linter.unnecessarySimpa false
set_option linter.deprecated false
namespace Go.Ex
open Go.Proofs
abbrev row_sea0 : Row := ⟨84, [it 9594], .tuple #[.agg #[it 2026, tx [83]], it 0]⟩
abbrev row_sea1 : Row := ⟨84, [it 9595], .tuple #[.agg #[it 2026, tx [83]], it 0]⟩
abbrev row_sea2 : Row := ⟨84, [it 9596], .tuple #[.agg #[it 2026, tx [83]], it 0]⟩
abbrev row_sea3 : Row := ⟨84, [it 9597], .tuple #[.agg #[it 2026, tx [83]], it 0]⟩
abbrev row_sea4 : Row := ⟨84, [it 9598], .tuple #[.agg #[it 2026, tx [83]], it 0]⟩
abbrev row_eqv0 : Row := ⟨85, [it 9594, .agg #[it 2027, tx [83]]], .tuple #[it 9958, it 0]⟩
abbrev row_eqv1 : Row := ⟨85, [it 9595, .agg #[it 2027, tx [83]]], .tuple #[it 9959, it 0]⟩
abbrev row_eqv2 : Row := ⟨85, [it 9596, .agg #[it 2027, tx [83]]], .tuple #[it 9960, it 0]⟩
abbrev row_eqv3 : Row := ⟨85, [it 9597, .agg #[it 2027, tx [83]]], .tuple #[it 9961, it 0]⟩
abbrev row_eqv4 : Row := ⟨85, [it 9598, .agg #[it 2027, tx [83]]], .tuple #[it 9962, it 0]⟩
abbrev row_lim0 : Row := ⟨109, [.agg #[tx [97, 108, 108], tx [84], tx [], it 60, it 60, it 600, it 600, it 9958, it 9962, it 124, it 1]], it 0⟩
abbrev row_crq0 : Row := ⟨230, [.agg #[tx [97], tx [99], tx [65], tx [], tx [102, 97, 114], tx [], it 9958, it 9962, it 124, it 600, it 50, it 3, it 0]], it 0⟩
abbrev row_crq1 : Row := ⟨230, [.agg #[tx [98], tx [99], tx [65], tx [], tx [102, 97, 114], tx [], it 9958, it 9962, it 124, it 600, it 300, it 3, it 0]], it 0⟩
abbrev row_wis0 : Row := ⟨112, [.agg #[tx [97], tx [99], tx [65], tx [], tx [102, 97, 114], tx [], it 9958, it 9962, it 124, it 600, it 50, it 3, it 0, it 600, it 600, it 1, it 0, it 0]], it 0⟩
abbrev row_wis1 : Row := ⟨112, [.agg #[tx [98], tx [99], tx [65], tx [], tx [102, 97, 114], tx [], it 9958, it 9962, it 124, it 600, it 300, it 3, it 0, it 600, it 600, it 1, it 0, it 0]], it 0⟩
abbrev row_clm0 : Row := ⟨175, [.agg #[tx [98], tx [99], tx [65], tx [], tx [102, 97, 114], tx [], it 9958, it 9962, it 124, it 600, it 300, it 3, it 0, .bool false, .bool false, .bool false, .bool false, it 0]], it 0⟩
abbrev row_clm1 : Row := ⟨175, [.agg #[tx [97], tx [99], tx [65], tx [], tx [102, 97, 114], tx [], it 9958, it 9962, it 124, it 600, it 50, it 3, it 0, .bool true, .bool false, .bool false, .bool false, it 0]], it 0⟩
abbrev row_cnt00 : Row := ⟨193, [.agg #[tx [97, 108, 108], tx [84], tx [], it 60, it 60, it 600, it 600, it 9958, it 9962, it 124, it 1], .agg #[it 14340120, tx [65], tx [], it 50, it 3, it 0, tx [97]]], .bool true⟩
abbrev row_cnt01 : Row := ⟨193, [.agg #[tx [97, 108, 108], tx [84], tx [], it 60, it 60, it 600, it 600, it 9958, it 9962, it 124, it 1], .agg #[it 14341560, tx [65], tx [], it 50, it 3, it 0, tx [97]]], .bool true⟩
abbrev row_cnt02 : Row := ⟨193, [.agg #[tx [97, 108, 108], tx [84], tx [], it 60, it 60, it 600, it 600, it 9958, it 9962, it 124, it 1], .agg #[it 14343000, tx [65], tx [], it 50, it 3, it 0, tx [97]]], .bool true⟩
abbrev row_cnt03 : Row := ⟨193, [.agg #[tx [97, 108, 108], tx [84], tx [], it 60, it 60, it 600, it 600, it 9958, it 9962, it 124, it 1], .agg #[it 14344440, tx [65], tx [], it 50, it 3, it 0, tx [97]]], .bool true⟩
abbrev row_cnt04 : Row := ⟨193, [.agg #[tx [97, 108, 108], tx [84], tx [], it 60, it 60, it 600, it 600, it 9958, it 9962, it 124, it 1], .agg #[it 14345880, tx [65], tx [], it 50, it 3, it 0, tx [97]]], .bool true⟩
abbrev row_cnt10 : Row := ⟨193, [.agg #[tx [97, 108, 108], tx [84], tx [], it 60, it 60, it 600, it 600, it 9958, it 9962, it 124, it 1], .agg #[it 14340120, tx [65], tx [], it 300, it 3, it 0, tx [98]]], .bool true⟩
abbrev row_cnt11 : Row := ⟨193, [.agg #[tx [97, 108, 108], tx [84], tx [], it 60, it 60, it 600, it 600, it 9958, it 9962, it 124, it 1], .agg #[it 14341560, tx [65], tx [], it 300, it 3, it 0, tx [98]]], .bool true⟩
abbrev row_cnt12 : Row := ⟨193, [.agg #[tx [97, 108, 108], tx [84], tx [], it 60, it 60, it 600, it 600, it 9958, it 9962, it 124, it 1], .agg #[it 14343000, tx [65], tx [], it 300, it 3, it 0, tx [98]]], .bool true⟩
abbrev row_cnt13 : Row := ⟨193, [.agg #[tx [97, 108, 108], tx [84], tx [], it 60, it 60, it 600, it 600, it 9958, it 9962, it 124, it 1], .agg #[it 14344440, tx [65], tx [], it 300, it 3, it 0, tx [98]]], .bool true⟩
abbrev row_cnt14 : Row := ⟨193, [.agg #[tx [97, 108, 108], tx [84], tx [], it 60, it 60, it 600, it 600, it 9958, it 9962, it 124, it 1], .agg #[it 14345880, tx [65], tx [], it 300, it 3, it 0, tx [98]]], .bool true⟩
abbrev row_has0 : Row := ⟨232, [.agg #[tx [97, 108, 108], tx [84], tx [], it 60, it 60, it 600, it 600, it 9958, it 9962, it 124, it 1], it 9957], .bool false⟩
abbrev row_has1 : Row := ⟨232, [.agg #[tx [97, 108, 108], tx [84], tx [], it 60, it 60, it 600, it 600, it 9958, it 9962, it 124, it 1], it 9958], .bool true⟩
abbrev row_has2 : Row := ⟨232, [.agg #[tx [97, 108, 108], tx [84], tx [], it 60, it 60, it 600, it 600, it 9958, it 9962, it 124, it 1], it 9959], .bool true⟩
abbrev row_has3 : Row := ⟨232, [.agg #[tx [97, 108, 108], tx [84], tx [], it 60, it 60, it 600, it 600, it 9958, it 9962, it 124, it 1], it 9960], .bool true⟩
abbrev row_has4 : Row := ⟨232, [.agg #[tx [97, 108, 108], tx [84], tx [], it 60, it 60, it 600, it 600, it 9958, it 9962, it 124, it 1], it 9961], .bool true⟩
abbrev row_has5 : Row := ⟨232, [.agg #[tx [97, 108, 108], tx [84], tx [], it 60, it 60, it 600, it 600, it 9958, it 9962, it 124, it 1], it 9962], .bool true⟩
abbrev row_per0 : Row := ⟨33, [.agg #[it 9594, it 9598, it 127]], it 0⟩
abbrev row_per1 : Row := ⟨33, [.agg #[it 9958, it 9962, it 124]], it 0⟩
abbrev row_nam0 : Row := ⟨73, [tx [97]], .bool true⟩
abbrev row_nam1 : Row := ⟨73, [tx [98]], .bool true⟩
abbrev row_nam2 : Row := ⟨73, [tx [99]], .bool true⟩
abbrev row_nam3 : Row := ⟨73, [tx [102, 97, 114]], .bool true⟩
abbrev row_nam4 : Row := ⟨73, [tx [115, 116, 114, 105, 107, 101]], .bool true⟩
abbrev row_nam5 : Row := ⟨73, [tx [97, 108, 108]], .bool true⟩
theorem tab0_ok : ∀ q ∈ ([] : List Row), RowOk EE q := fun _ h => by cases h
end Go.Ex
