/-
  What is proved: facts of the types and the functions, and the structures of the program.
-/
import Derived.Test.YtdfgeoefbbkcnaaGreatDoorVrA4
set_option linter.unusedSectionVars false
set_option linter.unusedSimpArgs false
set_option linter.unusedVariables false
set_option linter.unnecessarySimpa false
set_option linter.deprecated false
set_option maxRecDepth 10000
namespace Go.Sim
open Go.Proofs
structure S7 where
 x : Int
 y : Int
 signed : Bool
 code : Int
 deriving DecidableEq, Inhabited
abbrev S7.c (x : S7) : List G := [G.int x.x, G.int x.y, G.bool x.signed, G.lit (.int .u8 x.code)]
structure S13 where
 msg : ByteArray
 addr : Int
 deriving DecidableEq, Inhabited
abbrev S13.c (x : S13) : List G := [G.str x.msg, G.lit (.int .u64 x.addr)]
structure S23 where
 Before : Int
 After : Int
 Notice : Int
 Share : Int
 Causes : List ByteArray
 Off : Int
 Run : Int
 deriving DecidableEq, Inhabited
abbrev S23.c (x : S23) : List G := [G.int x.Before, G.int x.After, G.int x.Notice, G.int x.Share, G.sl 1 (List.map cStr x.Causes), G.int x.Off, G.int x.Run]
structure S45 where
 fFrom : Int
 fTo : Int
 Days : Int
 deriving DecidableEq, Inhabited
abbrev S45.c (x : S45) : List G := [G.int x.fFrom, G.int x.fTo, G.int x.Days]
structure S47 where
 Name : ByteArray
 Kind : ByteArray
 Period : S45
 Minute : Int
 deriving DecidableEq, Inhabited
abbrev S47.c (x : S47) : List G := [G.str x.Name, G.str x.Kind, G.int x.Period.fFrom, G.int x.Period.fTo, G.int x.Period.Days, G.int x.Minute]
structure S55 where
 Flown : Int
 Due : Int
 deriving DecidableEq, Inhabited
abbrev S55.c (x : S55) : List G := [G.int x.Flown, G.int x.Due]
structure S67 where
 Year : Int
 Kind : ByteArray
 deriving DecidableEq, Inhabited
abbrev S67.c (x : S67) : List G := [G.int x.Year, G.str x.Kind]
structure S104 where
 Kind : ByteArray
 Name : ByteArray
 Moment : Int
 Move : ByteArray
 fFrom : Int
 fTo : Int
 Cause : ByteArray
 Told : Int
 deriving DecidableEq, Inhabited
abbrev S104.c (x : S104) : List G := [G.str x.Kind, G.str x.Name, G.int x.Moment, G.str x.Move, G.int x.fFrom, G.int x.fTo, G.str x.Cause, G.int x.Told]
structure S110 where
 Name : ByteArray
 Ratio : S55
 Kept : Bool
 deriving DecidableEq, Inhabited
abbrev S110.c (x : S110) : List G := [G.str x.Name, G.int x.Ratio.Flown, G.int x.Ratio.Due, G.bool x.Kept]
structure S115 where
 Name : ByteArray
 Carrier : ByteArray
 Kind : ByteArray
 Terminal : ByteArray
 Partner : ByteArray
 Link : ByteArray
 Period : S45
 Minute : Int
 Seats : Int
 Size : Int
 Noise : Int
 deriving DecidableEq, Inhabited
abbrev S115.c (x : S115) : List G := [G.str x.Name, G.str x.Carrier, G.str x.Kind, G.str x.Terminal, G.str x.Partner, G.str x.Link, G.int x.Period.fFrom, G.int x.Period.fTo, G.int x.Period.Days, G.int x.Minute, G.int x.Seats, G.int x.Size, G.int x.Noise]
structure S113 where
 Requests : List S115
 Season : S67
 deriving DecidableEq, Inhabited
abbrev S113.c (x : S113) : List G := [G.sl 13 (List.map S115.c x.Requests), G.int x.Season.Year, G.str x.Season.Kind]
structure S131 where
 Name : ByteArray
 Periods : List S45
 deriving DecidableEq, Inhabited
abbrev S131.c (x : S131) : List G := [G.str x.Name, G.sl 3 (List.map S45.c x.Periods)]
structure S137 where
 Name : ByteArray
 Ratio : S55
 Kept : Bool
 deriving DecidableEq, Inhabited
abbrev S137.c (x : S137) : List G := [G.str x.Name, G.int x.Ratio.Flown, G.int x.Ratio.Due, G.bool x.Kept]
structure S139 where
 Slots : List Int
 Records : List Int
 deriving DecidableEq, Inhabited
abbrev S139.c (x : S139) : List G := [G.sl 1 (List.map cInt x.Slots), G.sl 1 (List.map cInt x.Records)]
structure S151 where
 Name : ByteArray
 Moment : Int
 Kind : ByteArray
 deriving DecidableEq, Inhabited
abbrev S151.c (x : S151) : List G := [G.str x.Name, G.int x.Moment, G.str x.Kind]
structure S154 where
 Slot : Int
 Record : Int
 deriving DecidableEq, Inhabited
abbrev S154.c (x : S154) : List G := [G.int x.Slot, G.int x.Record]
structure S141 where
 Slots : List S151
 Records : List S151
 Pairs : List S154
 Cover : S139
 deriving DecidableEq, Inhabited
abbrev S141.c (x : S141) : List G := [G.sl 3 (List.map S151.c x.Slots), G.sl 3 (List.map S151.c x.Records), G.sl 2 (List.map S154.c x.Pairs), G.sl 1 (List.map cInt x.Cover.Slots), G.sl 1 (List.map cInt x.Cover.Records)]
theorem K101 : Known Tryz.prog 101 := ⟨_, Tryz.func101, by kernel_rfl, by kernel_rfl⟩
theorem K102 : Known Tryz.prog 102 := ⟨_, Tryz.func102, by kernel_rfl, by kernel_rfl⟩
theorem K103 : Known Tryz.prog 103 := ⟨_, Tryz.func103, by kernel_rfl, by kernel_rfl⟩
theorem K106 : Known Tryz.prog 106 := ⟨_, Tryz.func106, by kernel_rfl, by kernel_rfl⟩
theorem K107 : Known Tryz.prog 107 := ⟨_, Tryz.func107, by kernel_rfl, by kernel_rfl⟩
theorem K108 : Known Tryz.prog 108 := ⟨_, Tryz.func108, by kernel_rfl, by kernel_rfl⟩
theorem K109 : Known Tryz.prog 109 := ⟨_, Tryz.func109, by kernel_rfl, by kernel_rfl⟩
theorem K115 : Known Tryz.prog 115 := ⟨_, Tryz.func115, by kernel_rfl, by kernel_rfl⟩
theorem K121 : Known Tryz.prog 121 := ⟨_, Tryz.func121, by kernel_rfl, by kernel_rfl⟩
theorem K124 : Known Tryz.prog 124 := ⟨_, Tryz.func124, by kernel_rfl, by kernel_rfl⟩
theorem K126 : Known Tryz.prog 126 := ⟨_, Tryz.func126, by kernel_rfl, by kernel_rfl⟩
theorem K133 : Known Tryz.prog 133 := ⟨_, Tryz.func133, by kernel_rfl, by kernel_rfl⟩
theorem K134 : Known Tryz.prog 134 := ⟨_, Tryz.func134, by kernel_rfl, by kernel_rfl⟩
theorem K135 : Known Tryz.prog 135 := ⟨_, Tryz.func135, by kernel_rfl, by kernel_rfl⟩
theorem K136 : Known Tryz.prog 136 := ⟨_, Tryz.func136, by kernel_rfl, by kernel_rfl⟩
theorem K138 : Known Tryz.prog 138 := ⟨_, Tryz.func138, by kernel_rfl, by kernel_rfl⟩
theorem K139 : Known Tryz.prog 139 := ⟨_, Tryz.func139, by kernel_rfl, by kernel_rfl⟩
theorem K142 : Known Tryz.prog 142 := ⟨_, Tryz.func142, by kernel_rfl, by kernel_rfl⟩
theorem K147 : Known Tryz.prog 147 := ⟨_, Tryz.func147, by kernel_rfl, by kernel_rfl⟩
theorem K148 : Known Tryz.prog 148 := ⟨_, Tryz.func148, by kernel_rfl, by kernel_rfl⟩
theorem K149 : Known Tryz.prog 149 := ⟨_, Tryz.func149, by kernel_rfl, by kernel_rfl⟩
theorem K150 : Known Tryz.prog 150 := ⟨_, Tryz.func150, by kernel_rfl, by kernel_rfl⟩
theorem K151 : Known Tryz.prog 151 := ⟨_, Tryz.func151, by kernel_rfl, by kernel_rfl⟩
theorem K152 : Known Tryz.prog 152 := ⟨_, Tryz.func152, by kernel_rfl, by kernel_rfl⟩
theorem K153 : Known Tryz.prog 153 := ⟨_, Tryz.func153, by kernel_rfl, by kernel_rfl⟩
theorem K154 : Known Tryz.prog 154 := ⟨_, Tryz.func154, by kernel_rfl, by kernel_rfl⟩
theorem K155 : Known Tryz.prog 155 := ⟨_, Tryz.func155, by kernel_rfl, by kernel_rfl⟩
theorem K158 : Known Tryz.prog 158 := ⟨_, Tryz.func158, by kernel_rfl, by kernel_rfl⟩
theorem K159 : Known Tryz.prog 159 := ⟨_, Tryz.func159, by kernel_rfl, by kernel_rfl⟩
theorem K16 : Known Tryz.prog 16 := ⟨_, Tryz.func16, by kernel_rfl, by kernel_rfl⟩
theorem K160 : Known Tryz.prog 160 := ⟨_, Tryz.func160, by kernel_rfl, by kernel_rfl⟩
theorem K167 : Known Tryz.prog 167 := ⟨_, Tryz.func167, by kernel_rfl, by kernel_rfl⟩
theorem K168 : Known Tryz.prog 168 := ⟨_, Tryz.func168, by kernel_rfl, by kernel_rfl⟩
theorem K170 : Known Tryz.prog 170 := ⟨_, Tryz.func170, by kernel_rfl, by kernel_rfl⟩
theorem K171 : Known Tryz.prog 171 := ⟨_, Tryz.func171, by kernel_rfl, by kernel_rfl⟩
theorem K172 : Known Tryz.prog 172 := ⟨_, Tryz.func172, by kernel_rfl, by kernel_rfl⟩
theorem K173 : Known Tryz.prog 173 := ⟨_, Tryz.func173, by kernel_rfl, by kernel_rfl⟩
theorem K174 : Known Tryz.prog 174 := ⟨_, Tryz.func174, by kernel_rfl, by kernel_rfl⟩
theorem K175 : Known Tryz.prog 175 := ⟨_, Tryz.func175, by kernel_rfl, by kernel_rfl⟩
theorem K176 : Known Tryz.prog 176 := ⟨_, Tryz.func176, by kernel_rfl, by kernel_rfl⟩
theorem K177 : Known Tryz.prog 177 := ⟨_, Tryz.func177, by kernel_rfl, by kernel_rfl⟩
theorem K178 : Known Tryz.prog 178 := ⟨_, Tryz.func178, by kernel_rfl, by kernel_rfl⟩
theorem K182 : Known Tryz.prog 182 := ⟨_, Tryz.func182, by kernel_rfl, by kernel_rfl⟩
theorem K183 : Known Tryz.prog 183 := ⟨_, Tryz.func183, by kernel_rfl, by kernel_rfl⟩
theorem K184 : Known Tryz.prog 184 := ⟨_, Tryz.func184, by kernel_rfl, by kernel_rfl⟩
theorem K185 : Known Tryz.prog 185 := ⟨_, Tryz.func185, by kernel_rfl, by kernel_rfl⟩
theorem K188 : Known Tryz.prog 188 := ⟨_, Tryz.func188, by kernel_rfl, by kernel_rfl⟩
theorem K189 : Known Tryz.prog 189 := ⟨_, Tryz.func189, by kernel_rfl, by kernel_rfl⟩
theorem K193 : Known Tryz.prog 193 := ⟨_, Tryz.func193, by kernel_rfl, by kernel_rfl⟩
theorem K194 : Known Tryz.prog 194 := ⟨_, Tryz.func194, by kernel_rfl, by kernel_rfl⟩
theorem K195 : Known Tryz.prog 195 := ⟨_, Tryz.func195, by kernel_rfl, by kernel_rfl⟩
theorem K196 : Known Tryz.prog 196 := ⟨_, Tryz.func196, by kernel_rfl, by kernel_rfl⟩
theorem K197 : Known Tryz.prog 197 := ⟨_, Tryz.func197, by kernel_rfl, by kernel_rfl⟩
theorem K202 : Known Tryz.prog 202 := ⟨_, Tryz.func202, by kernel_rfl, by kernel_rfl⟩
theorem K203 : Known Tryz.prog 203 := ⟨_, Tryz.func203, by kernel_rfl, by kernel_rfl⟩
theorem K204 : Known Tryz.prog 204 := ⟨_, Tryz.func204, by kernel_rfl, by kernel_rfl⟩
theorem K205 : Known Tryz.prog 205 := ⟨_, Tryz.func205, by kernel_rfl, by kernel_rfl⟩
theorem K206 : Known Tryz.prog 206 := ⟨_, Tryz.func206, by kernel_rfl, by kernel_rfl⟩
theorem K207 : Known Tryz.prog 207 := ⟨_, Tryz.func207, by kernel_rfl, by kernel_rfl⟩
theorem K208 : Known Tryz.prog 208 := ⟨_, Tryz.func208, by kernel_rfl, by kernel_rfl⟩
theorem K209 : Known Tryz.prog 209 := ⟨_, Tryz.func209, by kernel_rfl, by kernel_rfl⟩
theorem K220 : Known Tryz.prog 220 := ⟨_, Tryz.func220, by kernel_rfl, by kernel_rfl⟩
theorem K221 : Known Tryz.prog 221 := ⟨_, Tryz.func221, by kernel_rfl, by kernel_rfl⟩
theorem K222 : Known Tryz.prog 222 := ⟨_, Tryz.func222, by kernel_rfl, by kernel_rfl⟩
theorem K223 : Known Tryz.prog 223 := ⟨_, Tryz.func223, by kernel_rfl, by kernel_rfl⟩
theorem K23 : Known Tryz.prog 23 := ⟨_, Tryz.func23, by kernel_rfl, by kernel_rfl⟩
theorem K233 : Known Tryz.prog 233 := ⟨_, Tryz.func233, by kernel_rfl, by kernel_rfl⟩
theorem K234 : Known Tryz.prog 234 := ⟨_, Tryz.func234, by kernel_rfl, by kernel_rfl⟩
theorem K237 : Known Tryz.prog 237 := ⟨_, Tryz.func237, by kernel_rfl, by kernel_rfl⟩
theorem K239 : Known Tryz.prog 239 := ⟨_, Tryz.func239, by kernel_rfl, by kernel_rfl⟩
theorem K242 : Known Tryz.prog 242 := ⟨_, Tryz.func242, by kernel_rfl, by kernel_rfl⟩
theorem K248 : Known Tryz.prog 248 := ⟨_, Tryz.func248, by kernel_rfl, by kernel_rfl⟩
theorem K252 : Known Tryz.prog 252 := ⟨_, Tryz.func252, by kernel_rfl, by kernel_rfl⟩
theorem K253 : Known Tryz.prog 253 := ⟨_, Tryz.func253, by kernel_rfl, by kernel_rfl⟩
theorem K255 : Known Tryz.prog 255 := ⟨_, Tryz.func255, by kernel_rfl, by kernel_rfl⟩
theorem K256 : Known Tryz.prog 256 := ⟨_, Tryz.func256, by kernel_rfl, by kernel_rfl⟩
theorem K260 : Known Tryz.prog 260 := ⟨_, Tryz.func260, by kernel_rfl, by kernel_rfl⟩
theorem K27 : Known Tryz.prog 27 := ⟨_, Tryz.func27, by kernel_rfl, by kernel_rfl⟩
theorem K39 : Known Tryz.prog 39 := ⟨_, Tryz.func39, by kernel_rfl, by kernel_rfl⟩
theorem K40 : Known Tryz.prog 40 := ⟨_, Tryz.func40, by kernel_rfl, by kernel_rfl⟩
theorem K41 : Known Tryz.prog 41 := ⟨_, Tryz.func41, by kernel_rfl, by kernel_rfl⟩
theorem K43 : Known Tryz.prog 43 := ⟨_, Tryz.func43, by kernel_rfl, by kernel_rfl⟩
theorem K64 : Known Tryz.prog 64 := ⟨_, Tryz.func64, by kernel_rfl, by kernel_rfl⟩
theorem K69 : Known Tryz.prog 69 := ⟨_, Tryz.func69, by kernel_rfl, by kernel_rfl⟩
theorem K70 : Known Tryz.prog 70 := ⟨_, Tryz.func70, by kernel_rfl, by kernel_rfl⟩
theorem K71 : Known Tryz.prog 71 := ⟨_, Tryz.func71, by kernel_rfl, by kernel_rfl⟩
theorem K84 : Known Tryz.prog 84 := ⟨_, Tryz.func84, by kernel_rfl, by kernel_rfl⟩
theorem K85 : Known Tryz.prog 85 := ⟨_, Tryz.func85, by kernel_rfl, by kernel_rfl⟩
theorem K86 : Known Tryz.prog 86 := ⟨_, Tryz.func86, by kernel_rfl, by kernel_rfl⟩
theorem K87 : Known Tryz.prog 87 := ⟨_, Tryz.func87, by kernel_rfl, by kernel_rfl⟩
theorem K88 : Known Tryz.prog 88 := ⟨_, Tryz.func88, by kernel_rfl, by kernel_rfl⟩
theorem K90 : Known Tryz.prog 90 := ⟨_, Tryz.func90, by kernel_rfl, by kernel_rfl⟩
theorem K98 : Known Tryz.prog 98 := ⟨_, Tryz.func98, by kernel_rfl, by kernel_rfl⟩
theorem K99 : Known Tryz.prog 99 := ⟨_, Tryz.func99, by kernel_rfl, by kernel_rfl⟩
theorem qu2 : appK Tryz.prog 117 = some (132, 2, 40) := by kernel_rfl
theorem qtj : appK Tryz.prog 170 = some (37, 1, 8) := by kernel_rfl
theorem qtv : appK Tryz.prog 25 = some (152, 3, 40) := by kernel_rfl
theorem qtt : appK Tryz.prog 26 = some (105, 8, 96) := by kernel_rfl
theorem qv4 : appK Tryz.prog 69 = some (46, 3, 24) := by kernel_rfl
theorem qv1 : appK Tryz.prog 79 = some (155, 2, 16) := by kernel_rfl
theorem qrh : appK Tryz.prog 82 = some (3, 1, 8) := by kernel_rfl
theorem qba : fieldK Tryz.prog 105 0 = some (0, 1, false) := by kernel_rfl
theorem qb8 : fieldK Tryz.prog 105 1 = some (1, 1, false) := by kernel_rfl
theorem qhf : fieldK Tryz.prog 105 2 = some (2, 1, false) := by kernel_rfl
theorem qhg : fieldK Tryz.prog 105 3 = some (3, 1, false) := by kernel_rfl
theorem qef : fieldK Tryz.prog 105 4 = some (4, 1, false) := by kernel_rfl
theorem qeg : fieldK Tryz.prog 105 5 = some (5, 1, false) := by kernel_rfl
theorem qhh : fieldK Tryz.prog 105 6 = some (6, 1, false) := by kernel_rfl
theorem qhi : fieldK Tryz.prog 105 7 = some (7, 1, false) := by kernel_rfl
theorem qcd : fieldK Tryz.prog 116 0 = some (0, 1, false) := by kernel_rfl
theorem ql3 : fieldK Tryz.prog 116 2 = some (2, 1, false) := by kernel_rfl
theorem qht : fieldK Tryz.prog 116 6 = some (6, 3, true) := by kernel_rfl
theorem ql4 : fieldK Tryz.prog 116 7 = some (9, 1, false) := by kernel_rfl
theorem qs3 : fieldK Tryz.prog 132 0 = some (0, 1, false) := by kernel_rfl
theorem qs4 : fieldK Tryz.prog 132 1 = some (1, 1, false) := by kernel_rfl
theorem qck : fieldK Tryz.prog 152 0 = some (0, 1, false) := by kernel_rfl
theorem v9 : fieldK Tryz.prog 152 1 = some (1, 1, false) := by kernel_rfl
theorem qhw : fieldK Tryz.prog 152 2 = some (2, 1, false) := by kernel_rfl
theorem qsm : fieldK Tryz.prog 155 0 = some (0, 1, false) := by kernel_rfl
theorem qpv : fieldK Tryz.prog 24 0 = some (0, 1, false) := by kernel_rfl
theorem qpw : fieldK Tryz.prog 24 1 = some (1, 1, false) := by kernel_rfl
theorem qpx : fieldK Tryz.prog 24 2 = some (2, 1, false) := by kernel_rfl
theorem qpy : fieldK Tryz.prog 24 3 = some (3, 1, false) := by kernel_rfl
theorem qiy : fieldK Tryz.prog 24 4 = some (4, 1, false) := by kernel_rfl
theorem qtk : fieldK Tryz.prog 24 5 = some (5, 1, false) := by kernel_rfl
theorem qtl : fieldK Tryz.prog 24 6 = some (6, 1, false) := by kernel_rfl
theorem qbj : fieldK Tryz.prog 46 0 = some (0, 1, false) := by kernel_rfl
theorem qaa : fieldK Tryz.prog 46 1 = some (1, 1, false) := by kernel_rfl
theorem qls : fieldK Tryz.prog 46 2 = some (2, 1, false) := by kernel_rfl
theorem qme : fieldK Tryz.prog 56 0 = some (0, 1, false) := by kernel_rfl
theorem qjb : fieldK Tryz.prog 56 1 = some (1, 1, false) := by kernel_rfl
theorem qf6 : fieldK Tryz.prog 68 0 = some (0, 1, false) := by kernel_rfl
theorem qbk : fieldK Tryz.prog 68 1 = some (1, 1, false) := by kernel_rfl
theorem qt0 : fieldK Tryz.prog 74 0 = some (0, 1, false) := by kernel_rfl
theorem qp6 : fieldK Tryz.prog 74 1 = some (1, 1, false) := by kernel_rfl
theorem qwp : placesK Tryz.prog 105 = some [(0, 1), (1, 1), (2, 1), (3, 1), (4, 1), (5, 1), (6, 1), (7, 1)] := by kernel_rfl
theorem qwq : placesK Tryz.prog 116 = some [(0, 1), (1, 1), (2, 1), (3, 1), (4, 1), (5, 1), (6, 3), (9, 1), (10, 1), (11, 1), (12, 1)] := by kernel_rfl
theorem qwn : placesK Tryz.prog 132 = some [(0, 1), (1, 1)] := by kernel_rfl
theorem quc : placesK Tryz.prog 152 = some [(0, 1), (1, 1), (2, 1)] := by kernel_rfl
theorem qv0 : placesK Tryz.prog 155 = some [(0, 1), (1, 1)] := by kernel_rfl
theorem pl24 : placesK Tryz.prog 24 = some [(0, 1), (1, 1), (2, 1), (3, 1), (4, 1), (5, 1), (6, 1)] := by kernel_rfl
theorem pl46 : placesK Tryz.prog 46 = some [(0, 1), (1, 1), (2, 1)] := by kernel_rfl
theorem pl68 : placesK Tryz.prog 68 = some [(0, 1), (1, 1)] := by kernel_rfl
theorem xp : tyK Tryz.prog 105 = some (8, true) := by kernel_rfl
theorem qc4 : tyK Tryz.prog 116 = some (13, true) := by kernel_rfl
theorem qsn : tyK Tryz.prog 132 = some (2, true) := by kernel_rfl
theorem km : tyK Tryz.prog 152 = some (3, true) := by kernel_rfl
theorem qoe : tyK Tryz.prog 155 = some (2, true) := by kernel_rfl
theorem ty22 : tyK Tryz.prog 22 = some (1, false) := by kernel_rfl
theorem qoj : tyK Tryz.prog 239 = some (3, true) := by kernel_rfl
theorem ty24 : tyK Tryz.prog 24 = some (7, true) := by kernel_rfl
theorem ty25 : tyK Tryz.prog 25 = some (1, false) := by kernel_rfl
theorem ty3 : tyK Tryz.prog 3 = some (1, false) := by kernel_rfl
theorem ty37 : tyK Tryz.prog 37 = some (1, false) := by kernel_rfl
theorem ty46 : tyK Tryz.prog 46 = some (3, true) := by kernel_rfl
theorem ty56 : tyK Tryz.prog 56 = some (2, true) := by kernel_rfl
theorem ty68 : tyK Tryz.prog 68 = some (2, true) := by kernel_rfl
theorem ty69 : tyK Tryz.prog 69 = some (1, false) := by kernel_rfl
theorem ty9 : tyK Tryz.prog 9 = some (1, false) := by kernel_rfl
theorem z105 : zeroK Tryz.prog 105 = some [.string ByteArray.empty, .string ByteArray.empty, .int .i64 0, .string ByteArray.empty, .int .i64 0, .int .i64 0, .string ByteArray.empty, .int .i64 0] := by kernel_rfl
theorem z116 : zeroK Tryz.prog 116 = some [.string ByteArray.empty, .string ByteArray.empty, .string ByteArray.empty, .string ByteArray.empty, .string ByteArray.empty, .string ByteArray.empty, .int .i64 0, .int .i64 0, .int .i64 0, .int .i64 0, .int .i64 0, .int .i64 0, .int .i64 0] := by kernel_rfl
theorem z132 : zeroK Tryz.prog 132 = some [.string ByteArray.empty, .slice none 0 0] := by kernel_rfl
theorem z152 : zeroK Tryz.prog 152 = some [.string ByteArray.empty, .int .i64 0, .string ByteArray.empty] := by kernel_rfl
theorem z155 : zeroK Tryz.prog 155 = some [.int .i64 0, .int .i64 0] := by kernel_rfl
theorem z239 : zeroK Tryz.prog 239 = some [.int .i64 0, .int .i64 0, .int .i64 0] := by kernel_rfl
theorem z24 : zeroK Tryz.prog 24 = some [.int .i64 0, .int .i64 0, .int .i64 0, .int .i64 0, .slice none 0 0, .int .i64 0, .int .i64 0] := by kernel_rfl
theorem z3 : zeroK Tryz.prog 3 = some [.int .i64 0] := by kernel_rfl
theorem z37 : zeroK Tryz.prog 37 = some [.int .i64 0] := by kernel_rfl
theorem z46 : zeroK Tryz.prog 46 = some [.int .i64 0, .int .i64 0, .int .i64 0] := by kernel_rfl
theorem z56 : zeroK Tryz.prog 56 = some [.int .i64 0, .int .i64 0] := by kernel_rfl
theorem z68 : zeroK Tryz.prog 68 = some [.int .i64 0, .string ByteArray.empty] := by kernel_rfl
theorem z9 : zeroK Tryz.prog 9 = some [.string ByteArray.empty] := by kernel_rfl
theorem qrq : flatK Tryz.prog 60 152 = some [.str, .int .i64, .str] ∧ structB Tryz.prog 152 = true ∧ Tryz.prog.eqGuardType Tryz.prog.depth 152 = false := ⟨by kernel_rfl, by kernel_rfl, by kernel_rfl⟩
theorem qt4 : flatK Tryz.prog 60 46 = some [.int .i64, .int .i64, .int .i64] ∧ structB Tryz.prog 46 = true ∧ Tryz.prog.eqGuardType Tryz.prog.depth 46 = false := ⟨by kernel_rfl, by kernel_rfl, by kernel_rfl⟩
theorem qt5 : flatK Tryz.prog 60 68 = some [.int .i64, .str] ∧ structB Tryz.prog 68 = true ∧ Tryz.prog.eqGuardType Tryz.prog.depth 68 = false := ⟨by kernel_rfl, by kernel_rfl, by kernel_rfl⟩
theorem mk82 : mkK Tryz.prog 82 = some (3, 1, 8, [.int .i64 0]) := by kernel_rfl
theorem zr3 : (Tryz.prog.info? 3).bind (·.zero) = some (.int .i64 0) := by kernel_rfl
theorem zr4 : (Tryz.prog.info? 4).bind (·.zero) = some (.bool false) := by kernel_rfl
end Go.Sim
