/-
  What is proved: facts of the types and the functions, and the structures of the program.
-/
import Derived.Test.YtdfgeoefbbkcnaaGreatDoorVaA4
set_option linter.unusedSectionVars false
set_option linter.unusedSimpArgs false
set_option linter.unusedVariables false
set_option linter.unnecessarySimpa false
set_option linter.deprecated false
set_option linter.unusedSimpArgs false
set_option linter.unusedVariables false
set_option maxRecDepth 10000
namespace Go.Sim
open Go.Proofs
structure S7 where
 x : Int
 y : Int
 signed : Bool
 code : Int
 deriving DecidableEq, Inhabited
abbrev S7.c (x : S7) : List G := [G.int x.x, G.int x.y, G.bool x.signed, G.lit (.int .u8 x.code)]
structure S13 where
 msg : ByteArray
 addr : Int
 deriving DecidableEq, Inhabited
abbrev S13.c (x : S13) : List G := [G.str x.msg, G.lit (.int .u64 x.addr)]
structure S23 where
 Before : Int
 After : Int
 Notice : Int
 Share : Int
 Causes : List ByteArray
 Off : Int
 Run : Int
 deriving DecidableEq, Inhabited
abbrev S23.c (x : S23) : List G := [G.int x.Before, G.int x.After, G.int x.Notice, G.int x.Share, G.sl 1 (List.map cStr x.Causes), G.int x.Off, G.int x.Run]
structure S45 where
 fFrom : Int
 fTo : Int
 Days : Int
 deriving DecidableEq, Inhabited
abbrev S45.c (x : S45) : List G := [G.int x.fFrom, G.int x.fTo, G.int x.Days]
structure S47 where
 Name : ByteArray
 Kind : ByteArray
 Period : S45
 Minute : Int
 deriving DecidableEq, Inhabited
abbrev S47.c (x : S47) : List G := [G.str x.Name, G.str x.Kind, G.int x.Period.fFrom, G.int x.Period.fTo, G.int x.Period.Days, G.int x.Minute]
structure S55 where
 Flown : Int
 Due : Int
 deriving DecidableEq, Inhabited
abbrev S55.c (x : S55) : List G := [G.int x.Flown, G.int x.Due]
structure S67 where
 Year : Int
 Kind : ByteArray
 deriving DecidableEq, Inhabited
abbrev S67.c (x : S67) : List G := [G.int x.Year, G.str x.Kind]
structure S104 where
 Kind : ByteArray
 Name : ByteArray
 Moment : Int
 Move : ByteArray
 fFrom : Int
 fTo : Int
 Cause : ByteArray
 Told : Int
 deriving DecidableEq, Inhabited
abbrev S104.c (x : S104) : List G := [G.str x.Kind, G.str x.Name, G.int x.Moment, G.str x.Move, G.int x.fFrom, G.int x.fTo, G.str x.Cause, G.int x.Told]
structure S110 where
 Name : ByteArray
 Ratio : S55
 Kept : Bool
 deriving DecidableEq, Inhabited
abbrev S110.c (x : S110) : List G := [G.str x.Name, G.int x.Ratio.Flown, G.int x.Ratio.Due, G.bool x.Kept]
structure S115 where
 Name : ByteArray
 Carrier : ByteArray
 Kind : ByteArray
 Terminal : ByteArray
 Partner : ByteArray
 Link : ByteArray
 Period : S45
 Minute : Int
 Seats : Int
 Size : Int
 Noise : Int
 deriving DecidableEq, Inhabited
abbrev S115.c (x : S115) : List G := [G.str x.Name, G.str x.Carrier, G.str x.Kind, G.str x.Terminal, G.str x.Partner, G.str x.Link, G.int x.Period.fFrom, G.int x.Period.fTo, G.int x.Period.Days, G.int x.Minute, G.int x.Seats, G.int x.Size, G.int x.Noise]
structure S113 where
 Requests : List S115
 Season : S67
 deriving DecidableEq, Inhabited
abbrev S113.c (x : S113) : List G := [G.sl 13 (List.map S115.c x.Requests), G.int x.Season.Year, G.str x.Season.Kind]
structure S131 where
 Name : ByteArray
 Periods : List S45
 deriving DecidableEq, Inhabited
abbrev S131.c (x : S131) : List G := [G.str x.Name, G.sl 3 (List.map S45.c x.Periods)]
structure S137 where
 Name : ByteArray
 Ratio : S55
 Kept : Bool
 deriving DecidableEq, Inhabited
abbrev S137.c (x : S137) : List G := [G.str x.Name, G.int x.Ratio.Flown, G.int x.Ratio.Due, G.bool x.Kept]
structure S139 where
 Slots : List Int
 Records : List Int
 deriving DecidableEq, Inhabited
abbrev S139.c (x : S139) : List G := [G.sl 1 (List.map cInt x.Slots), G.sl 1 (List.map cInt x.Records)]
structure S151 where
 Name : ByteArray
 Moment : Int
 Kind : ByteArray
 deriving DecidableEq, Inhabited
abbrev S151.c (x : S151) : List G := [G.str x.Name, G.int x.Moment, G.str x.Kind]
structure S154 where
 Slot : Int
 Record : Int
 deriving DecidableEq, Inhabited
abbrev S154.c (x : S154) : List G := [G.int x.Slot, G.int x.Record]
structure S141 where
 Slots : List S151
 Records : List S151
 Pairs : List S154
 Cover : S139
 deriving DecidableEq, Inhabited
abbrev S141.c (x : S141) : List G := [G.sl 3 (List.map S151.c x.Slots), G.sl 3 (List.map S151.c x.Records), G.sl 2 (List.map S154.c x.Pairs), G.sl 1 (List.map cInt x.Cover.Slots), G.sl 1 (List.map cInt x.Cover.Records)]
theorem K100 : Known Tryz.prog 100 := ⟨_, Tryz.func100, by kernel_rfl, by kernel_rfl⟩
theorem K101 : Known Tryz.prog 101 := ⟨_, Tryz.func101, by kernel_rfl, by kernel_rfl⟩
theorem K102 : Known Tryz.prog 102 := ⟨_, Tryz.func102, by kernel_rfl, by kernel_rfl⟩
theorem K103 : Known Tryz.prog 103 := ⟨_, Tryz.func103, by kernel_rfl, by kernel_rfl⟩
theorem K104 : Known Tryz.prog 104 := ⟨_, Tryz.func104, by kernel_rfl, by kernel_rfl⟩
theorem K105 : Known Tryz.prog 105 := ⟨_, Tryz.func105, by kernel_rfl, by kernel_rfl⟩
theorem K106 : Known Tryz.prog 106 := ⟨_, Tryz.func106, by kernel_rfl, by kernel_rfl⟩
theorem K109 : Known Tryz.prog 109 := ⟨_, Tryz.func109, by kernel_rfl, by kernel_rfl⟩
theorem K115 : Known Tryz.prog 115 := ⟨_, Tryz.func115, by kernel_rfl, by kernel_rfl⟩
theorem K120 : Known Tryz.prog 120 := ⟨_, Tryz.func120, by kernel_rfl, by kernel_rfl⟩
theorem K121 : Known Tryz.prog 121 := ⟨_, Tryz.func121, by kernel_rfl, by kernel_rfl⟩
theorem K122 : Known Tryz.prog 122 := ⟨_, Tryz.func122, by kernel_rfl, by kernel_rfl⟩
theorem K124 : Known Tryz.prog 124 := ⟨_, Tryz.func124, by kernel_rfl, by kernel_rfl⟩
theorem K126 : Known Tryz.prog 126 := ⟨_, Tryz.func126, by kernel_rfl, by kernel_rfl⟩
theorem K127 : Known Tryz.prog 127 := ⟨_, Tryz.func127, by kernel_rfl, by kernel_rfl⟩
theorem K128 : Known Tryz.prog 128 := ⟨_, Tryz.func128, by kernel_rfl, by kernel_rfl⟩
theorem K129 : Known Tryz.prog 129 := ⟨_, Tryz.func129, by kernel_rfl, by kernel_rfl⟩
theorem K130 : Known Tryz.prog 130 := ⟨_, Tryz.func130, by kernel_rfl, by kernel_rfl⟩
theorem K131 : Known Tryz.prog 131 := ⟨_, Tryz.func131, by kernel_rfl, by kernel_rfl⟩
theorem K132 : Known Tryz.prog 132 := ⟨_, Tryz.func132, by kernel_rfl, by kernel_rfl⟩
theorem K133 : Known Tryz.prog 133 := ⟨_, Tryz.func133, by kernel_rfl, by kernel_rfl⟩
theorem K135 : Known Tryz.prog 135 := ⟨_, Tryz.func135, by kernel_rfl, by kernel_rfl⟩
theorem K136 : Known Tryz.prog 136 := ⟨_, Tryz.func136, by kernel_rfl, by kernel_rfl⟩
theorem K140 : Known Tryz.prog 140 := ⟨_, Tryz.func140, by kernel_rfl, by kernel_rfl⟩
theorem K142 : Known Tryz.prog 142 := ⟨_, Tryz.func142, by kernel_rfl, by kernel_rfl⟩
theorem K145 : Known Tryz.prog 145 := ⟨_, Tryz.func145, by kernel_rfl, by kernel_rfl⟩
theorem K147 : Known Tryz.prog 147 := ⟨_, Tryz.func147, by kernel_rfl, by kernel_rfl⟩
theorem K148 : Known Tryz.prog 148 := ⟨_, Tryz.func148, by kernel_rfl, by kernel_rfl⟩
theorem K149 : Known Tryz.prog 149 := ⟨_, Tryz.func149, by kernel_rfl, by kernel_rfl⟩
theorem K150 : Known Tryz.prog 150 := ⟨_, Tryz.func150, by kernel_rfl, by kernel_rfl⟩
theorem K151 : Known Tryz.prog 151 := ⟨_, Tryz.func151, by kernel_rfl, by kernel_rfl⟩
theorem K152 : Known Tryz.prog 152 := ⟨_, Tryz.func152, by kernel_rfl, by kernel_rfl⟩
theorem K153 : Known Tryz.prog 153 := ⟨_, Tryz.func153, by kernel_rfl, by kernel_rfl⟩
theorem K154 : Known Tryz.prog 154 := ⟨_, Tryz.func154, by kernel_rfl, by kernel_rfl⟩
theorem K155 : Known Tryz.prog 155 := ⟨_, Tryz.func155, by kernel_rfl, by kernel_rfl⟩
theorem K157 : Known Tryz.prog 157 := ⟨_, Tryz.func157, by kernel_rfl, by kernel_rfl⟩
theorem K16 : Known Tryz.prog 16 := ⟨_, Tryz.func16, by kernel_rfl, by kernel_rfl⟩
theorem K167 : Known Tryz.prog 167 := ⟨_, Tryz.func167, by kernel_rfl, by kernel_rfl⟩
theorem K168 : Known Tryz.prog 168 := ⟨_, Tryz.func168, by kernel_rfl, by kernel_rfl⟩
theorem K169 : Known Tryz.prog 169 := ⟨_, Tryz.func169, by kernel_rfl, by kernel_rfl⟩
theorem K17 : Known Tryz.prog 17 := ⟨_, Tryz.func17, by kernel_rfl, by kernel_rfl⟩
theorem K170 : Known Tryz.prog 170 := ⟨_, Tryz.func170, by kernel_rfl, by kernel_rfl⟩
theorem K171 : Known Tryz.prog 171 := ⟨_, Tryz.func171, by kernel_rfl, by kernel_rfl⟩
theorem K172 : Known Tryz.prog 172 := ⟨_, Tryz.func172, by kernel_rfl, by kernel_rfl⟩
theorem K173 : Known Tryz.prog 173 := ⟨_, Tryz.func173, by kernel_rfl, by kernel_rfl⟩
theorem K174 : Known Tryz.prog 174 := ⟨_, Tryz.func174, by kernel_rfl, by kernel_rfl⟩
theorem K175 : Known Tryz.prog 175 := ⟨_, Tryz.func175, by kernel_rfl, by kernel_rfl⟩
theorem K176 : Known Tryz.prog 176 := ⟨_, Tryz.func176, by kernel_rfl, by kernel_rfl⟩
theorem K177 : Known Tryz.prog 177 := ⟨_, Tryz.func177, by kernel_rfl, by kernel_rfl⟩
theorem K178 : Known Tryz.prog 178 := ⟨_, Tryz.func178, by kernel_rfl, by kernel_rfl⟩
theorem K179 : Known Tryz.prog 179 := ⟨_, Tryz.func179, by kernel_rfl, by kernel_rfl⟩
theorem K18 : Known Tryz.prog 18 := ⟨_, Tryz.func18, by kernel_rfl, by kernel_rfl⟩
theorem K180 : Known Tryz.prog 180 := ⟨_, Tryz.func180, by kernel_rfl, by kernel_rfl⟩
theorem K181 : Known Tryz.prog 181 := ⟨_, Tryz.func181, by kernel_rfl, by kernel_rfl⟩
theorem K182 : Known Tryz.prog 182 := ⟨_, Tryz.func182, by kernel_rfl, by kernel_rfl⟩
theorem K183 : Known Tryz.prog 183 := ⟨_, Tryz.func183, by kernel_rfl, by kernel_rfl⟩
theorem K188 : Known Tryz.prog 188 := ⟨_, Tryz.func188, by kernel_rfl, by kernel_rfl⟩
theorem K19 : Known Tryz.prog 19 := ⟨_, Tryz.func19, by kernel_rfl, by kernel_rfl⟩
theorem K192 : Known Tryz.prog 192 := ⟨_, Tryz.func192, by kernel_rfl, by kernel_rfl⟩
theorem K20 : Known Tryz.prog 20 := ⟨_, Tryz.func20, by kernel_rfl, by kernel_rfl⟩
theorem K202 : Known Tryz.prog 202 := ⟨_, Tryz.func202, by kernel_rfl, by kernel_rfl⟩
theorem K203 : Known Tryz.prog 203 := ⟨_, Tryz.func203, by kernel_rfl, by kernel_rfl⟩
theorem K204 : Known Tryz.prog 204 := ⟨_, Tryz.func204, by kernel_rfl, by kernel_rfl⟩
theorem K205 : Known Tryz.prog 205 := ⟨_, Tryz.func205, by kernel_rfl, by kernel_rfl⟩
theorem K206 : Known Tryz.prog 206 := ⟨_, Tryz.func206, by kernel_rfl, by kernel_rfl⟩
theorem K207 : Known Tryz.prog 207 := ⟨_, Tryz.func207, by kernel_rfl, by kernel_rfl⟩
theorem K208 : Known Tryz.prog 208 := ⟨_, Tryz.func208, by kernel_rfl, by kernel_rfl⟩
theorem K209 : Known Tryz.prog 209 := ⟨_, Tryz.func209, by kernel_rfl, by kernel_rfl⟩
theorem K21 : Known Tryz.prog 21 := ⟨_, Tryz.func21, by kernel_rfl, by kernel_rfl⟩
theorem K210 : Known Tryz.prog 210 := ⟨_, Tryz.func210, by kernel_rfl, by kernel_rfl⟩
theorem K22 : Known Tryz.prog 22 := ⟨_, Tryz.func22, by kernel_rfl, by kernel_rfl⟩
theorem K23 : Known Tryz.prog 23 := ⟨_, Tryz.func23, by kernel_rfl, by kernel_rfl⟩
theorem K233 : Known Tryz.prog 233 := ⟨_, Tryz.func233, by kernel_rfl, by kernel_rfl⟩
theorem K234 : Known Tryz.prog 234 := ⟨_, Tryz.func234, by kernel_rfl, by kernel_rfl⟩
theorem K24 : Known Tryz.prog 24 := ⟨_, Tryz.func24, by kernel_rfl, by kernel_rfl⟩
theorem K242 : Known Tryz.prog 242 := ⟨_, Tryz.func242, by kernel_rfl, by kernel_rfl⟩
theorem K25 : Known Tryz.prog 25 := ⟨_, Tryz.func25, by kernel_rfl, by kernel_rfl⟩
theorem K252 : Known Tryz.prog 252 := ⟨_, Tryz.func252, by kernel_rfl, by kernel_rfl⟩
theorem K26 : Known Tryz.prog 26 := ⟨_, Tryz.func26, by kernel_rfl, by kernel_rfl⟩
theorem K27 : Known Tryz.prog 27 := ⟨_, Tryz.func27, by kernel_rfl, by kernel_rfl⟩
theorem K28 : Known Tryz.prog 28 := ⟨_, Tryz.func28, by kernel_rfl, by kernel_rfl⟩
theorem K29 : Known Tryz.prog 29 := ⟨_, Tryz.func29, by kernel_rfl, by kernel_rfl⟩
theorem K30 : Known Tryz.prog 30 := ⟨_, Tryz.func30, by kernel_rfl, by kernel_rfl⟩
theorem K31 : Known Tryz.prog 31 := ⟨_, Tryz.func31, by kernel_rfl, by kernel_rfl⟩
theorem K32 : Known Tryz.prog 32 := ⟨_, Tryz.func32, by kernel_rfl, by kernel_rfl⟩
theorem K33 : Known Tryz.prog 33 := ⟨_, Tryz.func33, by kernel_rfl, by kernel_rfl⟩
theorem K34 : Known Tryz.prog 34 := ⟨_, Tryz.func34, by kernel_rfl, by kernel_rfl⟩
theorem K35 : Known Tryz.prog 35 := ⟨_, Tryz.func35, by kernel_rfl, by kernel_rfl⟩
theorem K36 : Known Tryz.prog 36 := ⟨_, Tryz.func36, by kernel_rfl, by kernel_rfl⟩
theorem K37 : Known Tryz.prog 37 := ⟨_, Tryz.func37, by kernel_rfl, by kernel_rfl⟩
theorem K38 : Known Tryz.prog 38 := ⟨_, Tryz.func38, by kernel_rfl, by kernel_rfl⟩
theorem K40 : Known Tryz.prog 40 := ⟨_, Tryz.func40, by kernel_rfl, by kernel_rfl⟩
theorem K59 : Known Tryz.prog 59 := ⟨_, Tryz.func59, by kernel_rfl, by kernel_rfl⟩
theorem K61 : Known Tryz.prog 61 := ⟨_, Tryz.func61, by kernel_rfl, by kernel_rfl⟩
theorem K63 : Known Tryz.prog 63 := ⟨_, Tryz.func63, by kernel_rfl, by kernel_rfl⟩
theorem K72 : Known Tryz.prog 72 := ⟨_, Tryz.func72, by kernel_rfl, by kernel_rfl⟩
theorem K73 : Known Tryz.prog 73 := ⟨_, Tryz.func73, by kernel_rfl, by kernel_rfl⟩
theorem K74 : Known Tryz.prog 74 := ⟨_, Tryz.func74, by kernel_rfl, by kernel_rfl⟩
theorem K80 : Known Tryz.prog 80 := ⟨_, Tryz.func80, by kernel_rfl, by kernel_rfl⟩
theorem K84 : Known Tryz.prog 84 := ⟨_, Tryz.func84, by kernel_rfl, by kernel_rfl⟩
theorem K85 : Known Tryz.prog 85 := ⟨_, Tryz.func85, by kernel_rfl, by kernel_rfl⟩
theorem K86 : Known Tryz.prog 86 := ⟨_, Tryz.func86, by kernel_rfl, by kernel_rfl⟩
theorem K87 : Known Tryz.prog 87 := ⟨_, Tryz.func87, by kernel_rfl, by kernel_rfl⟩
theorem K88 : Known Tryz.prog 88 := ⟨_, Tryz.func88, by kernel_rfl, by kernel_rfl⟩
theorem K89 : Known Tryz.prog 89 := ⟨_, Tryz.func89, by kernel_rfl, by kernel_rfl⟩
theorem K90 : Known Tryz.prog 90 := ⟨_, Tryz.func90, by kernel_rfl, by kernel_rfl⟩
theorem K91 : Known Tryz.prog 91 := ⟨_, Tryz.func91, by kernel_rfl, by kernel_rfl⟩
theorem K92 : Known Tryz.prog 92 := ⟨_, Tryz.func92, by kernel_rfl, by kernel_rfl⟩
theorem K93 : Known Tryz.prog 93 := ⟨_, Tryz.func93, by kernel_rfl, by kernel_rfl⟩
theorem K94 : Known Tryz.prog 94 := ⟨_, Tryz.func94, by kernel_rfl, by kernel_rfl⟩
theorem K95 : Known Tryz.prog 95 := ⟨_, Tryz.func95, by kernel_rfl, by kernel_rfl⟩
theorem K96 : Known Tryz.prog 96 := ⟨_, Tryz.func96, by kernel_rfl, by kernel_rfl⟩
theorem K97 : Known Tryz.prog 97 := ⟨_, Tryz.func97, by kernel_rfl, by kernel_rfl⟩
theorem K98 : Known Tryz.prog 98 := ⟨_, Tryz.func98, by kernel_rfl, by kernel_rfl⟩
theorem K99 : Known Tryz.prog 99 := ⟨_, Tryz.func99, by kernel_rfl, by kernel_rfl⟩
theorem quh : appK Tryz.prog 107 = some (111, 4, 40) := by kernel_rfl
theorem qnm : appK Tryz.prog 134 = some (138, 4, 40) := by kernel_rfl
theorem qqe : appK Tryz.prog 170 = some (37, 1, 8) := by kernel_rfl
theorem qrl : appK Tryz.prog 22 = some (9, 1, 16) := by kernel_rfl
theorem qui : appK Tryz.prog 25 = some (152, 3, 40) := by kernel_rfl
theorem qwl : appK Tryz.prog 26 = some (105, 8, 96) := by kernel_rfl
theorem qla : appK Tryz.prog 32 = some (160, 3, 40) := by kernel_rfl
theorem qwm : appK Tryz.prog 35 = some (161, 8, 96) := by kernel_rfl
theorem qwi : appK Tryz.prog 79 = some (155, 2, 16) := by kernel_rfl
theorem qie : appK Tryz.prog 82 = some (3, 1, 8) := by kernel_rfl
theorem qwk : appK Tryz.prog 89 = some (158, 2, 16) := by kernel_rfl
theorem qbu : fieldK Tryz.prog 105 0 = some (0, 1, false) := by kernel_rfl
theorem qc8 : fieldK Tryz.prog 105 1 = some (1, 1, false) := by kernel_rfl
theorem qiq : fieldK Tryz.prog 105 2 = some (2, 1, false) := by kernel_rfl
theorem qir : fieldK Tryz.prog 105 3 = some (3, 1, false) := by kernel_rfl
theorem qfa : fieldK Tryz.prog 105 4 = some (4, 1, false) := by kernel_rfl
theorem qfb : fieldK Tryz.prog 105 5 = some (5, 1, false) := by kernel_rfl
theorem qis : fieldK Tryz.prog 105 6 = some (6, 1, false) := by kernel_rfl
theorem qit : fieldK Tryz.prog 105 7 = some (7, 1, false) := by kernel_rfl
theorem qiu : fieldK Tryz.prog 111 0 = some (0, 1, false) := by kernel_rfl
theorem qsb : fieldK Tryz.prog 111 1 = some (1, 2, true) := by kernel_rfl
theorem qsc : fieldK Tryz.prog 111 2 = some (3, 1, false) := by kernel_rfl
theorem qiv : fieldK Tryz.prog 138 0 = some (0, 1, false) := by kernel_rfl
theorem qsd : fieldK Tryz.prog 138 1 = some (1, 2, true) := by kernel_rfl
theorem qse : fieldK Tryz.prog 138 2 = some (3, 1, false) := by kernel_rfl
theorem w4 : fieldK Tryz.prog 152 0 = some (0, 1, false) := by kernel_rfl
theorem vw : fieldK Tryz.prog 152 1 = some (1, 1, false) := by kernel_rfl
theorem qe8 : fieldK Tryz.prog 152 2 = some (2, 1, false) := by kernel_rfl
theorem qsf : fieldK Tryz.prog 155 0 = some (0, 1, false) := by kernel_rfl
theorem qrm : fieldK Tryz.prog 158 0 = some (0, 1, false) := by kernel_rfl
theorem xh : fieldK Tryz.prog 160 0 = some (0, 1, false) := by kernel_rfl
theorem vd : fieldK Tryz.prog 160 1 = some (1, 1, false) := by kernel_rfl
theorem qbm : fieldK Tryz.prog 160 2 = some (2, 1, false) := by kernel_rfl
theorem xi : fieldK Tryz.prog 161 0 = some (0, 1, false) := by kernel_rfl
theorem qal : fieldK Tryz.prog 161 1 = some (1, 1, false) := by kernel_rfl
theorem qid : fieldK Tryz.prog 161 2 = some (2, 1, false) := by kernel_rfl
theorem qe3 : fieldK Tryz.prog 161 3 = some (3, 1, false) := by kernel_rfl
theorem qe0 : fieldK Tryz.prog 161 4 = some (4, 1, false) := by kernel_rfl
theorem qe1 : fieldK Tryz.prog 161 5 = some (5, 1, false) := by kernel_rfl
theorem qe2 : fieldK Tryz.prog 161 6 = some (6, 1, false) := by kernel_rfl
theorem qic : fieldK Tryz.prog 161 7 = some (7, 1, false) := by kernel_rfl
theorem qp8 : fieldK Tryz.prog 24 0 = some (0, 1, false) := by kernel_rfl
theorem qp9 : fieldK Tryz.prog 24 1 = some (1, 1, false) := by kernel_rfl
theorem qqf : fieldK Tryz.prog 24 2 = some (2, 1, false) := by kernel_rfl
theorem qnf : fieldK Tryz.prog 24 3 = some (3, 1, false) := by kernel_rfl
theorem qj8 : fieldK Tryz.prog 24 4 = some (4, 1, false) := by kernel_rfl
theorem quj : fieldK Tryz.prog 24 5 = some (5, 1, false) := by kernel_rfl
theorem quk : fieldK Tryz.prog 24 6 = some (6, 1, false) := by kernel_rfl
theorem qqa : fieldK Tryz.prog 29 0 = some (0, 1, false) := by kernel_rfl
theorem qqb : fieldK Tryz.prog 29 1 = some (1, 1, false) := by kernel_rfl
theorem qpz : fieldK Tryz.prog 29 2 = some (2, 1, false) := by kernel_rfl
theorem qng : fieldK Tryz.prog 29 3 = some (3, 1, false) := by kernel_rfl
theorem wy : fieldK Tryz.prog 29 4 = some (4, 1, false) := by kernel_rfl
theorem qul : fieldK Tryz.prog 29 5 = some (5, 1, false) := by kernel_rfl
theorem qum : fieldK Tryz.prog 29 6 = some (6, 1, false) := by kernel_rfl
theorem qbz : fieldK Tryz.prog 46 0 = some (0, 1, false) := by kernel_rfl
theorem qb0 : fieldK Tryz.prog 46 1 = some (1, 1, false) := by kernel_rfl
theorem qnn : fieldK Tryz.prog 46 2 = some (2, 1, false) := by kernel_rfl
theorem qj9 : fieldK Tryz.prog 48 0 = some (0, 1, false) := by kernel_rfl
theorem qka : fieldK Tryz.prog 48 1 = some (1, 1, false) := by kernel_rfl
theorem qno : fieldK Tryz.prog 48 2 = some (2, 3, true) := by kernel_rfl
theorem qnp : fieldK Tryz.prog 48 3 = some (5, 1, false) := by kernel_rfl
theorem qby : fieldK Tryz.prog 56 0 = some (0, 1, false) := by kernel_rfl
theorem qbc : fieldK Tryz.prog 56 1 = some (1, 1, false) := by kernel_rfl
theorem qdy : fieldK Tryz.prog 63 0 = some (0, 1, false) := by kernel_rfl
theorem qc0 : fieldK Tryz.prog 63 1 = some (1, 1, false) := by kernel_rfl
theorem qwn : placesK Tryz.prog 111 = some [(0, 1), (1, 2), (3, 1)] := by kernel_rfl
theorem qwo : placesK Tryz.prog 138 = some [(0, 1), (1, 2), (3, 1)] := by kernel_rfl
theorem quf : placesK Tryz.prog 152 = some [(0, 1), (1, 1), (2, 1)] := by kernel_rfl
theorem qwh : placesK Tryz.prog 155 = some [(0, 1), (1, 1)] := by kernel_rfl
theorem qwj : placesK Tryz.prog 158 = some [(0, 1), (1, 1)] := by kernel_rfl
theorem qt0 : placesK Tryz.prog 160 = some [(0, 1), (1, 1), (2, 1)] := by kernel_rfl
theorem qwp : placesK Tryz.prog 161 = some [(0, 1), (1, 1), (2, 1), (3, 1), (4, 1), (5, 1), (6, 1), (7, 1)] := by kernel_rfl
theorem xx : tyK Tryz.prog 105 = some (8, true) := by kernel_rfl
theorem qag : tyK Tryz.prog 111 = some (4, true) := by kernel_rfl
theorem qfc : tyK Tryz.prog 138 = some (4, true) := by kernel_rfl
theorem ko : tyK Tryz.prog 152 = some (3, true) := by kernel_rfl
theorem qpf : tyK Tryz.prog 155 = some (2, true) := by kernel_rfl
theorem qt1 : tyK Tryz.prog 158 = some (2, true) := by kernel_rfl
theorem km : tyK Tryz.prog 160 = some (3, true) := by kernel_rfl
theorem xj : tyK Tryz.prog 161 = some (8, true) := by kernel_rfl
theorem qwq : tyK Tryz.prog 218 = some (14, true) := by kernel_rfl
theorem ty22 : tyK Tryz.prog 22 = some (1, false) := by kernel_rfl
theorem ty24 : tyK Tryz.prog 24 = some (7, true) := by kernel_rfl
theorem ty25 : tyK Tryz.prog 25 = some (1, false) := by kernel_rfl
theorem ty29 : tyK Tryz.prog 29 = some (7, true) := by kernel_rfl
theorem ty3 : tyK Tryz.prog 3 = some (1, false) := by kernel_rfl
theorem ty37 : tyK Tryz.prog 37 = some (1, false) := by kernel_rfl
theorem ty4 : tyK Tryz.prog 4 = some (1, false) := by kernel_rfl
theorem ty46 : tyK Tryz.prog 46 = some (3, true) := by kernel_rfl
theorem ty56 : tyK Tryz.prog 56 = some (2, true) := by kernel_rfl
theorem ty63 : tyK Tryz.prog 63 = some (2, true) := by kernel_rfl
theorem ty9 : tyK Tryz.prog 9 = some (1, false) := by kernel_rfl
theorem z105 : zeroK Tryz.prog 105 = some [.string ByteArray.empty, .string ByteArray.empty, .int .i64 0, .string ByteArray.empty, .int .i64 0, .int .i64 0, .string ByteArray.empty, .int .i64 0] := by kernel_rfl
theorem z111 : zeroK Tryz.prog 111 = some [.string ByteArray.empty, .int .i64 0, .int .i64 0, .bool false] := by kernel_rfl
theorem z138 : zeroK Tryz.prog 138 = some [.string ByteArray.empty, .int .i64 0, .int .i64 0, .bool false] := by kernel_rfl
theorem z152 : zeroK Tryz.prog 152 = some [.string ByteArray.empty, .int .i64 0, .string ByteArray.empty] := by kernel_rfl
theorem z155 : zeroK Tryz.prog 155 = some [.int .i64 0, .int .i64 0] := by kernel_rfl
theorem z158 : zeroK Tryz.prog 158 = some [.int .i64 0, .int .i64 0] := by kernel_rfl
theorem z160 : zeroK Tryz.prog 160 = some [.string ByteArray.empty, .int .i64 0, .string ByteArray.empty] := by kernel_rfl
theorem z161 : zeroK Tryz.prog 161 = some [.string ByteArray.empty, .string ByteArray.empty, .int .i64 0, .string ByteArray.empty, .int .i64 0, .int .i64 0, .string ByteArray.empty, .int .i64 0] := by kernel_rfl
theorem z2 : zeroK Tryz.prog 2 = some [.int .i64 0] := by kernel_rfl
theorem z218 : zeroK Tryz.prog 218 = some [.int .i64 0, .int .i64 0, .int .i64 0, .int .i64 0, .int .i64 0, .int .i64 0, .int .i64 0, .int .i64 0, .int .i64 0, .int .i64 0, .int .i64 0, .int .i64 0, .int .i64 0, .int .i64 0] := by kernel_rfl
theorem z29 : zeroK Tryz.prog 29 = some [.int .i64 0, .int .i64 0, .int .i64 0, .int .i64 0, .slice none 0 0, .int .i64 0, .int .i64 0] := by kernel_rfl
theorem z3 : zeroK Tryz.prog 3 = some [.int .i64 0] := by kernel_rfl
theorem z37 : zeroK Tryz.prog 37 = some [.int .i64 0] := by kernel_rfl
theorem z56 : zeroK Tryz.prog 56 = some [.int .i64 0, .int .i64 0] := by kernel_rfl
theorem z63 : zeroK Tryz.prog 63 = some [.int .i64 0, .int .i64 0] := by kernel_rfl
theorem z9 : zeroK Tryz.prog 9 = some [.string ByteArray.empty] := by kernel_rfl
theorem qr4 : flatK Tryz.prog 60 152 = some [.str, .int .i64, .str] ∧ structB Tryz.prog 152 = true ∧ Tryz.prog.eqGuardType Tryz.prog.depth 152 = false := ⟨by kernel_rfl, by kernel_rfl, by kernel_rfl⟩
theorem qsg : flatK Tryz.prog 60 160 = some [.str, .int .i64, .str] ∧ structB Tryz.prog 160 = true ∧ Tryz.prog.eqGuardType Tryz.prog.depth 160 = false := ⟨by kernel_rfl, by kernel_rfl, by kernel_rfl⟩
theorem qsh : flatK Tryz.prog 60 161 = some [.str, .str, .int .i64, .str, .int .i64, .int .i64, .str, .int .i64] ∧ structB Tryz.prog 161 = true ∧ Tryz.prog.eqGuardType Tryz.prog.depth 161 = false := ⟨by kernel_rfl, by kernel_rfl, by kernel_rfl⟩
theorem qun : flatK Tryz.prog 60 63 = some [.int .i64, .int .i64] ∧ structB Tryz.prog 63 = true ∧ Tryz.prog.eqGuardType Tryz.prog.depth 63 = false := ⟨by kernel_rfl, by kernel_rfl, by kernel_rfl⟩
theorem mk82 : mkK Tryz.prog 82 = some (3, 1, 8, [.int .i64 0]) := by kernel_rfl
theorem zr4 : (Tryz.prog.info? 4).bind (·.zero) = some (.bool false) := by kernel_rfl
theorem zr56 : (Tryz.prog.info? 56).bind (·.zero) = some (.agg #[.int .i64 0, .int .i64 0]) := by kernel_rfl
end Go.Sim
