/-
  What is proved: lemmas and contracts of functions on the way to the law topBeaconReduced (part 19).
-/
import Derived.Test.YtcpkkolljgpalaaGreatDoorVrB5
import Derived.Test.YtcpkkolljgpalaaGreatDoorVrB6
import Derived.Test.YtcpkkolljgpalaaGreatDoorVrB7
import Derived.Test.YtcpkkolljgpalaaGreatDoorVrB8
import Derived.Test.YtcpkkolljgpalaaGreatDoorVrB9
set_option linter.unusedSectionVars false
set_option linter.unusedSimpArgs false
set_option linter.unusedVariables false
set_option linter.unnecessarySimpa false
set_option linter.deprecated false
namespace Go.Ex
open Go.Proofs
abbrev tab1 : List Row := [row_sea0, row_sea1, row_sea2, row_sea3, row_sea4]
theorem ja : ∀ q ∈ tab1, RowOk EE q := (zq qps (zq qoq (zq qor (zq qq9 (zq qpr qbn)))))
theorem qtl : isVal row_eqv0.r (runT tab1 row_eqv0.f row_eqv0.vs) = true := by kernel_rfl
theorem qyp : RowOk EE row_eqv0 := jk ja (by rfl) (by rfl) qtl
theorem qtm : isVal row_eqv1.r (runT tab1 row_eqv1.f row_eqv1.vs) = true := by kernel_rfl
theorem qyq : RowOk EE row_eqv1 := jk ja (by rfl) (by rfl) qtm
theorem qtn : isVal row_eqv2.r (runT tab1 row_eqv2.f row_eqv2.vs) = true := by kernel_rfl
theorem qyr : RowOk EE row_eqv2 := jk ja (by rfl) (by rfl) qtn
theorem qto : isVal row_eqv3.r (runT tab1 row_eqv3.f row_eqv3.vs) = true := by kernel_rfl
theorem qys : RowOk EE row_eqv3 := jk ja (by rfl) (by rfl) qto
theorem qtp : isVal row_eqv4.r (runT tab1 row_eqv4.f row_eqv4.vs) = true := by kernel_rfl
theorem qyt : RowOk EE row_eqv4 := jk ja (by rfl) (by rfl) qtp
theorem qtq : isVal row_lim0.r (runT tab1 row_lim0.f row_lim0.vs) = true := by kernel_rfl
theorem qyu : RowOk EE row_lim0 := jk ja (by rfl) (by rfl) qtq
theorem qtr : isVal row_crq0.r (runT tab1 row_crq0.f row_crq0.vs) = true := by kernel_rfl
theorem qyv : RowOk EE row_crq0 := jk ja (by rfl) (by rfl) qtr
theorem qts : isVal row_crq1.r (runT tab1 row_crq1.f row_crq1.vs) = true := by kernel_rfl
theorem qyw : RowOk EE row_crq1 := jk ja (by rfl) (by rfl) qts
theorem qtt : isVal row_wis0.r (runT tab1 row_wis0.f row_wis0.vs) = true := by kernel_rfl
theorem qyx : RowOk EE row_wis0 := jk ja (by rfl) (by rfl) qtt
theorem qtu : isVal row_wis1.r (runT tab1 row_wis1.f row_wis1.vs) = true := by kernel_rfl
theorem qyy : RowOk EE row_wis1 := jk ja (by rfl) (by rfl) qtu
theorem qtv : isVal row_clm0.r (runT tab1 row_clm0.f row_clm0.vs) = true := by kernel_rfl
theorem qyz : RowOk EE row_clm0 := jk ja (by rfl) (by rfl) qtv
theorem qtw : isVal row_clm1.r (runT tab1 row_clm1.f row_clm1.vs) = true := by kernel_rfl
theorem qy0 : RowOk EE row_clm1 := jk ja (by rfl) (by rfl) qtw
theorem qrd : isVal row_cnt00.r (runT tab1 row_cnt00.f row_cnt00.vs) = true := by kernel_rfl
theorem qtx : RowOk EE row_cnt00 := jk ja (by rfl) (by rfl) qrd
theorem qre : isVal row_cnt01.r (runT tab1 row_cnt01.f row_cnt01.vs) = true := by kernel_rfl
theorem qty : RowOk EE row_cnt01 := jk ja (by rfl) (by rfl) qre
theorem qrf : isVal row_cnt02.r (runT tab1 row_cnt02.f row_cnt02.vs) = true := by kernel_rfl
theorem qtz : RowOk EE row_cnt02 := jk ja (by rfl) (by rfl) qrf
theorem qrg : isVal row_cnt03.r (runT tab1 row_cnt03.f row_cnt03.vs) = true := by kernel_rfl
theorem qt0 : RowOk EE row_cnt03 := jk ja (by rfl) (by rfl) qrg
theorem qrh : isVal row_cnt04.r (runT tab1 row_cnt04.f row_cnt04.vs) = true := by kernel_rfl
theorem qt1 : RowOk EE row_cnt04 := jk ja (by rfl) (by rfl) qrh
theorem qri : isVal row_cnt10.r (runT tab1 row_cnt10.f row_cnt10.vs) = true := by kernel_rfl
theorem qt2 : RowOk EE row_cnt10 := jk ja (by rfl) (by rfl) qri
theorem qrj : isVal row_cnt11.r (runT tab1 row_cnt11.f row_cnt11.vs) = true := by kernel_rfl
theorem qt3 : RowOk EE row_cnt11 := jk ja (by rfl) (by rfl) qrj
theorem qrk : isVal row_cnt12.r (runT tab1 row_cnt12.f row_cnt12.vs) = true := by kernel_rfl
theorem qt4 : RowOk EE row_cnt12 := jk ja (by rfl) (by rfl) qrk
theorem qrl : isVal row_cnt13.r (runT tab1 row_cnt13.f row_cnt13.vs) = true := by kernel_rfl
theorem qt5 : RowOk EE row_cnt13 := jk ja (by rfl) (by rfl) qrl
theorem qrm : isVal row_cnt14.r (runT tab1 row_cnt14.f row_cnt14.vs) = true := by kernel_rfl
theorem qt6 : RowOk EE row_cnt14 := jk ja (by rfl) (by rfl) qrm
theorem qt7 : isVal row_has0.r (runT tab1 row_has0.f row_has0.vs) = true := by kernel_rfl
theorem qy1 : RowOk EE row_has0 := jk ja (by rfl) (by rfl) qt7
theorem qt8 : isVal row_has1.r (runT tab1 row_has1.f row_has1.vs) = true := by kernel_rfl
theorem qy2 : RowOk EE row_has1 := jk ja (by rfl) (by rfl) qt8
theorem qt9 : isVal row_has2.r (runT tab1 row_has2.f row_has2.vs) = true := by kernel_rfl
theorem qy3 : RowOk EE row_has2 := jk ja (by rfl) (by rfl) qt9
theorem qua : isVal row_has3.r (runT tab1 row_has3.f row_has3.vs) = true := by kernel_rfl
theorem qy4 : RowOk EE row_has3 := jk ja (by rfl) (by rfl) qua
theorem qub : isVal row_has4.r (runT tab1 row_has4.f row_has4.vs) = true := by kernel_rfl
theorem qy5 : RowOk EE row_has4 := jk ja (by rfl) (by rfl) qub
theorem quc : isVal row_has5.r (runT tab1 row_has5.f row_has5.vs) = true := by kernel_rfl
theorem qy6 : RowOk EE row_has5 := jk ja (by rfl) (by rfl) quc
theorem qud : isVal row_per0.r (runT tab1 row_per0.f row_per0.vs) = true := by kernel_rfl
theorem qy7 : RowOk EE row_per0 := jk ja (by rfl) (by rfl) qud
theorem que : isVal row_per1.r (runT tab1 row_per1.f row_per1.vs) = true := by kernel_rfl
theorem qy8 : RowOk EE row_per1 := jk ja (by rfl) (by rfl) que
theorem quf : isVal row_nam0.r (runT tab1 row_nam0.f row_nam0.vs) = true := by kernel_rfl
theorem qy9 : RowOk EE row_nam0 := jk ja (by rfl) (by rfl) quf
theorem qug : isVal row_nam1.r (runT tab1 row_nam1.f row_nam1.vs) = true := by kernel_rfl
theorem qza : RowOk EE row_nam1 := jk ja (by rfl) (by rfl) qug
theorem quh : isVal row_nam2.r (runT tab1 row_nam2.f row_nam2.vs) = true := by kernel_rfl
theorem qzb : RowOk EE row_nam2 := jk ja (by rfl) (by rfl) quh
theorem qui : isVal row_nam3.r (runT tab1 row_nam3.f row_nam3.vs) = true := by kernel_rfl
theorem qzc : RowOk EE row_nam3 := jk ja (by rfl) (by rfl) qui
theorem quj : isVal row_nam4.r (runT tab1 row_nam4.f row_nam4.vs) = true := by kernel_rfl
theorem qzd : RowOk EE row_nam4 := jk ja (by rfl) (by rfl) quj
theorem quk : isVal row_nam5.r (runT tab1 row_nam5.f row_nam5.vs) = true := by kernel_rfl
theorem qze : RowOk EE row_nam5 := jk ja (by rfl) (by rfl) quk
abbrev tab2 : List Row := [row_sea0, row_sea1, row_sea2, row_sea3, row_sea4, row_eqv0, row_eqv1, row_eqv2, row_eqv3, row_eqv4, row_lim0, row_crq0, row_crq1, row_wis0, row_wis1, row_clm0, row_clm1, row_cnt00, row_cnt01, row_cnt02, row_cnt03, row_cnt04, row_cnt10, row_cnt11, row_cnt12, row_cnt13, row_cnt14, row_has0, row_has1, row_has2, row_has3, row_has4, row_has5, row_per0, row_per1, row_nam0, row_nam1, row_nam2, row_nam3, row_nam4, row_nam5]
theorem qxp : ∀ q ∈ tab2, RowOk EE q := (zq qps (zq qoq (zq qor (zq qq9 (zq qpr (zq qyp (zq qyq (zq qyr (zq qys (zq qyt (zq qyu (zq qyv (zq qyw (zq qyx (zq qyy (zq qyz (zq qy0 (zq qtx (zq qty (zq qtz (zq qt0 (zq qt1 (zq qt2 (zq qt3 (zq qt4 (zq qt5 (zq qt6 (zq qy1 (zq qy2 (zq qy3 (zq qy4 (zq qy5 (zq qy6 (zq qy7 (zq qy8 (zq qy9 (zq qza (zq qzb (zq qzc (zq qzd (zq qze qbn)))))))))))))))))))))))))))))))))))))))))
end Go.Ex
