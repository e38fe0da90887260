/-
  What is proved: lemmas and contracts of functions on the way to the law topBeaconShares (part 18).
-/
import Derived.Test.YtcpkkolljgpalaaGreatDoorVrB4
import Derived.Test.YtcpkkolljgpalaaGreatDoorVrB5
import Derived.Test.YtcpkkolljgpalaaGreatDoorVrB6
import Derived.Test.YtcpkkolljgpalaaGreatDoorVrB7
import Derived.Test.YtcpkkolljgpalaaGreatDoorVrB8
set_option linter.unusedSectionVars false
set_option linter.unusedSimpArgs false
set_option linter.unusedVariables false
set_option linter.unnecessarySimpa false
set_option linter.deprecated false
namespace Go.Ex
open Go.Proofs
abbrev tab1 : List Row := [row_sea0, row_sea1, row_sea2, row_sea3, row_sea4]
theorem tab1_ok : ∀ q ∈ tab1, RowOk EE q := (row_mem ok_sea0 (row_mem ok_sea1 (row_mem ok_sea2 (row_mem ok_sea3 (row_mem ok_sea4 tab0_ok)))))
theorem run_eqv0 : isVal row_eqv0.r (runT tab1 row_eqv0.f row_eqv0.vs) = true := by kernel_rfl
theorem ok_eqv0 : RowOk EE row_eqv0 := row_ok tab1_ok (by rfl) (by rfl) run_eqv0
theorem run_eqv1 : isVal row_eqv1.r (runT tab1 row_eqv1.f row_eqv1.vs) = true := by kernel_rfl
theorem ok_eqv1 : RowOk EE row_eqv1 := row_ok tab1_ok (by rfl) (by rfl) run_eqv1
theorem run_eqv2 : isVal row_eqv2.r (runT tab1 row_eqv2.f row_eqv2.vs) = true := by kernel_rfl
theorem ok_eqv2 : RowOk EE row_eqv2 := row_ok tab1_ok (by rfl) (by rfl) run_eqv2
theorem run_eqv3 : isVal row_eqv3.r (runT tab1 row_eqv3.f row_eqv3.vs) = true := by kernel_rfl
theorem ok_eqv3 : RowOk EE row_eqv3 := row_ok tab1_ok (by rfl) (by rfl) run_eqv3
theorem run_eqv4 : isVal row_eqv4.r (runT tab1 row_eqv4.f row_eqv4.vs) = true := by kernel_rfl
theorem ok_eqv4 : RowOk EE row_eqv4 := row_ok tab1_ok (by rfl) (by rfl) run_eqv4
theorem run_lim0 : isVal row_lim0.r (runT tab1 row_lim0.f row_lim0.vs) = true := by kernel_rfl
theorem ok_lim0 : RowOk EE row_lim0 := row_ok tab1_ok (by rfl) (by rfl) run_lim0
theorem run_crq0 : isVal row_crq0.r (runT tab1 row_crq0.f row_crq0.vs) = true := by kernel_rfl
theorem ok_crq0 : RowOk EE row_crq0 := row_ok tab1_ok (by rfl) (by rfl) run_crq0
theorem run_crq1 : isVal row_crq1.r (runT tab1 row_crq1.f row_crq1.vs) = true := by kernel_rfl
theorem ok_crq1 : RowOk EE row_crq1 := row_ok tab1_ok (by rfl) (by rfl) run_crq1
theorem run_wis0 : isVal row_wis0.r (runT tab1 row_wis0.f row_wis0.vs) = true := by kernel_rfl
theorem ok_wis0 : RowOk EE row_wis0 := row_ok tab1_ok (by rfl) (by rfl) run_wis0
theorem run_wis1 : isVal row_wis1.r (runT tab1 row_wis1.f row_wis1.vs) = true := by kernel_rfl
theorem ok_wis1 : RowOk EE row_wis1 := row_ok tab1_ok (by rfl) (by rfl) run_wis1
theorem run_clm0 : isVal row_clm0.r (runT tab1 row_clm0.f row_clm0.vs) = true := by kernel_rfl
theorem ok_clm0 : RowOk EE row_clm0 := row_ok tab1_ok (by rfl) (by rfl) run_clm0
theorem run_clm1 : isVal row_clm1.r (runT tab1 row_clm1.f row_clm1.vs) = true := by kernel_rfl
theorem ok_clm1 : RowOk EE row_clm1 := row_ok tab1_ok (by rfl) (by rfl) run_clm1
theorem run_cnt00 : isVal row_cnt00.r (runT tab1 row_cnt00.f row_cnt00.vs) = true := by kernel_rfl
theorem ok_cnt00 : RowOk EE row_cnt00 := row_ok tab1_ok (by rfl) (by rfl) run_cnt00
theorem run_cnt01 : isVal row_cnt01.r (runT tab1 row_cnt01.f row_cnt01.vs) = true := by kernel_rfl
theorem ok_cnt01 : RowOk EE row_cnt01 := row_ok tab1_ok (by rfl) (by rfl) run_cnt01
theorem run_cnt02 : isVal row_cnt02.r (runT tab1 row_cnt02.f row_cnt02.vs) = true := by kernel_rfl
theorem ok_cnt02 : RowOk EE row_cnt02 := row_ok tab1_ok (by rfl) (by rfl) run_cnt02
theorem run_cnt03 : isVal row_cnt03.r (runT tab1 row_cnt03.f row_cnt03.vs) = true := by kernel_rfl
theorem ok_cnt03 : RowOk EE row_cnt03 := row_ok tab1_ok (by rfl) (by rfl) run_cnt03
theorem run_cnt04 : isVal row_cnt04.r (runT tab1 row_cnt04.f row_cnt04.vs) = true := by kernel_rfl
theorem ok_cnt04 : RowOk EE row_cnt04 := row_ok tab1_ok (by rfl) (by rfl) run_cnt04
theorem run_cnt10 : isVal row_cnt10.r (runT tab1 row_cnt10.f row_cnt10.vs) = true := by kernel_rfl
theorem ok_cnt10 : RowOk EE row_cnt10 := row_ok tab1_ok (by rfl) (by rfl) run_cnt10
theorem run_cnt11 : isVal row_cnt11.r (runT tab1 row_cnt11.f row_cnt11.vs) = true := by kernel_rfl
theorem ok_cnt11 : RowOk EE row_cnt11 := row_ok tab1_ok (by rfl) (by rfl) run_cnt11
theorem run_cnt12 : isVal row_cnt12.r (runT tab1 row_cnt12.f row_cnt12.vs) = true := by kernel_rfl
theorem ok_cnt12 : RowOk EE row_cnt12 := row_ok tab1_ok (by rfl) (by rfl) run_cnt12
theorem run_cnt13 : isVal row_cnt13.r (runT tab1 row_cnt13.f row_cnt13.vs) = true := by kernel_rfl
theorem ok_cnt13 : RowOk EE row_cnt13 := row_ok tab1_ok (by rfl) (by rfl) run_cnt13
theorem run_cnt14 : isVal row_cnt14.r (runT tab1 row_cnt14.f row_cnt14.vs) = true := by kernel_rfl
theorem ok_cnt14 : RowOk EE row_cnt14 := row_ok tab1_ok (by rfl) (by rfl) run_cnt14
theorem run_has0 : isVal row_has0.r (runT tab1 row_has0.f row_has0.vs) = true := by kernel_rfl
theorem ok_has0 : RowOk EE row_has0 := row_ok tab1_ok (by rfl) (by rfl) run_has0
theorem run_has1 : isVal row_has1.r (runT tab1 row_has1.f row_has1.vs) = true := by kernel_rfl
theorem ok_has1 : RowOk EE row_has1 := row_ok tab1_ok (by rfl) (by rfl) run_has1
theorem run_has2 : isVal row_has2.r (runT tab1 row_has2.f row_has2.vs) = true := by kernel_rfl
theorem ok_has2 : RowOk EE row_has2 := row_ok tab1_ok (by rfl) (by rfl) run_has2
theorem run_has3 : isVal row_has3.r (runT tab1 row_has3.f row_has3.vs) = true := by kernel_rfl
theorem ok_has3 : RowOk EE row_has3 := row_ok tab1_ok (by rfl) (by rfl) run_has3
theorem run_has4 : isVal row_has4.r (runT tab1 row_has4.f row_has4.vs) = true := by kernel_rfl
theorem ok_has4 : RowOk EE row_has4 := row_ok tab1_ok (by rfl) (by rfl) run_has4
theorem run_has5 : isVal row_has5.r (runT tab1 row_has5.f row_has5.vs) = true := by kernel_rfl
theorem ok_has5 : RowOk EE row_has5 := row_ok tab1_ok (by rfl) (by rfl) run_has5
theorem run_per0 : isVal row_per0.r (runT tab1 row_per0.f row_per0.vs) = true := by kernel_rfl
theorem ok_per0 : RowOk EE row_per0 := row_ok tab1_ok (by rfl) (by rfl) run_per0
theorem run_per1 : isVal row_per1.r (runT tab1 row_per1.f row_per1.vs) = true := by kernel_rfl
theorem ok_per1 : RowOk EE row_per1 := row_ok tab1_ok (by rfl) (by rfl) run_per1
theorem run_nam0 : isVal row_nam0.r (runT tab1 row_nam0.f row_nam0.vs) = true := by kernel_rfl
theorem ok_nam0 : RowOk EE row_nam0 := row_ok tab1_ok (by rfl) (by rfl) run_nam0
theorem run_nam1 : isVal row_nam1.r (runT tab1 row_nam1.f row_nam1.vs) = true := by kernel_rfl
theorem ok_nam1 : RowOk EE row_nam1 := row_ok tab1_ok (by rfl) (by rfl) run_nam1
theorem run_nam2 : isVal row_nam2.r (runT tab1 row_nam2.f row_nam2.vs) = true := by kernel_rfl
theorem ok_nam2 : RowOk EE row_nam2 := row_ok tab1_ok (by rfl) (by rfl) run_nam2
theorem run_nam3 : isVal row_nam3.r (runT tab1 row_nam3.f row_nam3.vs) = true := by kernel_rfl
theorem ok_nam3 : RowOk EE row_nam3 := row_ok tab1_ok (by rfl) (by rfl) run_nam3
theorem run_nam4 : isVal row_nam4.r (runT tab1 row_nam4.f row_nam4.vs) = true := by kernel_rfl
theorem ok_nam4 : RowOk EE row_nam4 := row_ok tab1_ok (by rfl) (by rfl) run_nam4
theorem run_nam5 : isVal row_nam5.r (runT tab1 row_nam5.f row_nam5.vs) = true := by kernel_rfl
theorem ok_nam5 : RowOk EE row_nam5 := row_ok tab1_ok (by rfl) (by rfl) run_nam5
abbrev tab2 : List Row := [row_sea0, row_sea1, row_sea2, row_sea3, row_sea4, row_eqv0, row_eqv1, row_eqv2, row_eqv3, row_eqv4, row_lim0, row_crq0, row_crq1, row_wis0, row_wis1, row_clm0, row_clm1, row_cnt00, row_cnt01, row_cnt02, row_cnt03, row_cnt04, row_cnt10, row_cnt11, row_cnt12, row_cnt13, row_cnt14, row_has0, row_has1, row_has2, row_has3, row_has4, row_has5, row_per0, row_per1, row_nam0, row_nam1, row_nam2, row_nam3, row_nam4, row_nam5]
theorem tab2_ok : ∀ q ∈ tab2, RowOk EE q := (row_mem ok_sea0 (row_mem ok_sea1 (row_mem ok_sea2 (row_mem ok_sea3 (row_mem ok_sea4 (row_mem ok_eqv0 (row_mem ok_eqv1 (row_mem ok_eqv2 (row_mem ok_eqv3 (row_mem ok_eqv4 (row_mem ok_lim0 (row_mem ok_crq0 (row_mem ok_crq1 (row_mem ok_wis0 (row_mem ok_wis1 (row_mem ok_clm0 (row_mem ok_clm1 (row_mem ok_cnt00 (row_mem ok_cnt01 (row_mem ok_cnt02 (row_mem ok_cnt03 (row_mem ok_cnt04 (row_mem ok_cnt10 (row_mem ok_cnt11 (row_mem ok_cnt12 (row_mem ok_cnt13 (row_mem ok_cnt14 (row_mem ok_has0 (row_mem ok_has1 (row_mem ok_has2 (row_mem ok_has3 (row_mem ok_has4 (row_mem ok_has5 (row_mem ok_per0 (row_mem ok_per1 (row_mem ok_nam0 (row_mem ok_nam1 (row_mem ok_nam2 (row_mem ok_nam3 (row_mem ok_nam4 (row_mem ok_nam5 tab0_ok)))))))))))))))))))))))))))))))))))))))))
end Go.Ex
