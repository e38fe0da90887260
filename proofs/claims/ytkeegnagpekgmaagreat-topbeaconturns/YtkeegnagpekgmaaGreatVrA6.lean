/-
  What is proved: facts of the types and the functions, and the structures of the program.
-/
import Derived.Test.YtkeegnagpekgmaaGreatVrA5
set_option linter.unusedSectionVars false
set_option linter.unusedSimpArgs false
set_option linter.unusedVariables false
set_option linter.unnecessarySimpa false
set_option linter.deprecated false
set_option maxRecDepth 10000
namespace Go.Sim
open Go.Proofs
structure S7 where
 x : Int
 y : Int
 signed : Bool
 code : Int
 deriving DecidableEq, Inhabited
abbrev S7.c (x : S7) : List G := [G.int x.x, G.int x.y, G.bool x.signed, G.lit (.int .u8 x.code)]
structure S13 where
 msg : ByteArray
 addr : Int
 deriving DecidableEq, Inhabited
abbrev S13.c (x : S13) : List G := [G.str x.msg, G.lit (.int .u64 x.addr)]
structure S2028 where
 Minute : Int
 Ground : Int
 Size : Int
 Days : Int
 deriving DecidableEq, Inhabited
abbrev S2028.c (x : S2028) : List G := [G.lit (.int .u16 x.Minute), G.lit (.int .u16 x.Ground), G.lit (.int .u8 x.Size), G.lit (.int .u8 x.Days)]
structure S45 where
 fFrom : Int
 fTo : Int
 Days : Int
 deriving DecidableEq, Inhabited
abbrev S45.c (x : S45) : List G := [G.int x.fFrom, G.int x.fTo, G.int x.Days]
structure S115 where
 Name : ByteArray
 Carrier : ByteArray
 Kind : ByteArray
 Terminal : ByteArray
 Partner : ByteArray
 Link : ByteArray
 Period : S45
 Minute : Int
 Seats : Int
 Size : Int
 Noise : Int
 deriving DecidableEq, Inhabited
abbrev S115.c (x : S115) : List G := [G.str x.Name, G.str x.Carrier, G.str x.Kind, G.str x.Terminal, G.str x.Partner, G.str x.Link, G.int x.Period.fFrom, G.int x.Period.fTo, G.int x.Period.Days, G.int x.Minute, G.int x.Seats, G.int x.Size, G.int x.Noise]
structure S1124 where
 Name : ByteArray
 Start : Int
 End : Int
 Size : Int
 Terminal : ByteArray
 deriving DecidableEq, Inhabited
abbrev S1124.c (x : S1124) : List G := [G.str x.Name, G.int x.Start, G.int x.End, G.int x.Size, G.str x.Terminal]
structure S1079 where
 Moment : Int
 Kind : ByteArray
 Terminal : ByteArray
 Seats : Int
 Size : Int
 Noise : Int
 Name : ByteArray
 deriving DecidableEq, Inhabited
abbrev S1079.c (x : S1079) : List G := [G.int x.Moment, G.str x.Kind, G.str x.Terminal, G.int x.Seats, G.int x.Size, G.int x.Noise, G.str x.Name]
structure S1122 where
 Name : ByteArray
 Size : Int
 Terminal : ByteArray
 deriving DecidableEq, Inhabited
abbrev S1122.c (x : S1122) : List G := [G.str x.Name, G.int x.Size, G.str x.Terminal]
structure S1106 where
 Moment : Int
 Size : Int
 deriving DecidableEq, Inhabited
abbrev S1106.c (x : S1106) : List G := [G.int x.Moment, G.int x.Size]
structure S2062 where
 Name : ByteArray
 Kind : ByteArray
 Terminal : ByteArray
 Length : Int
 Step : Int
 fFrom : Int
 fTo : Int
 Period : S45
 Most : Int
 deriving DecidableEq, Inhabited
abbrev S2062.c (x : S2062) : List G := [G.str x.Name, G.str x.Kind, G.str x.Terminal, G.int x.Length, G.int x.Step, G.int x.fFrom, G.int x.fTo, G.int x.Period.fFrom, G.int x.Period.fTo, G.int x.Period.Days, G.int x.Most]
structure S1063 where
 Terminal : ByteArray
 Kind : ByteArray
 Length : Int
 Step : Int
 Most : Int
 deriving DecidableEq, Inhabited
abbrev S1063.c (x : S1063) : List G := [G.str x.Terminal, G.str x.Kind, G.int x.Length, G.int x.Step, G.int x.Most]
structure S2068 where
 Limit : Int
 Begin : Int
 Count : Int
 deriving DecidableEq, Inhabited
abbrev S2068.c (x : S2068) : List G := [G.int x.Limit, G.int x.Begin, G.int x.Count]
structure S1071 where
 Limit : Int
 Moment : Int
 Seats : Int
 deriving DecidableEq, Inhabited
abbrev S1071.c (x : S1071) : List G := [G.int x.Limit, G.int x.Moment, G.int x.Seats]
structure S1190 where
 stands : List S1122
 turns : List S1124
 buffer : Int
 given : List Int
 deriving DecidableEq, Inhabited
abbrev S1190.c (x : S1190) : List G := [G.sl 3 (List.map S1122.c x.stands), G.sl 5 (List.map S1124.c x.turns), G.int x.buffer, G.sl 1 (List.map cInt x.given)]
structure S1195 where
 moments : List Int
 before : List Int
 deriving DecidableEq, Inhabited
abbrev S1195.c (x : S1195) : List G := [G.sl 1 (List.map cInt x.moments), G.sl 1 (List.map cInt x.before)]
theorem K102 : Known Tryz.prog 71 := ⟨_, Tryz.func71, by kernel_rfl, by kernel_rfl⟩
theorem K1023 : Known Tryz.prog 86 := ⟨_, Tryz.func86, by kernel_rfl, by kernel_rfl⟩
theorem K1025 : Known Tryz.prog 33 := ⟨_, Tryz.func33, by kernel_rfl, by kernel_rfl⟩
theorem K1027 : Known Tryz.prog 29 := ⟨_, Tryz.func29, by kernel_rfl, by kernel_rfl⟩
theorem K1032 : Known Tryz.prog 12 := ⟨_, Tryz.func12, by kernel_rfl, by kernel_rfl⟩
theorem K1033 : Known Tryz.prog 43 := ⟨_, Tryz.func43, by kernel_rfl, by kernel_rfl⟩
theorem K1054 : Known Tryz.prog 14 := ⟨_, Tryz.func14, by kernel_rfl, by kernel_rfl⟩
theorem K1056 : Known Tryz.prog 11 := ⟨_, Tryz.func11, by kernel_rfl, by kernel_rfl⟩
theorem K1057 : Known Tryz.prog 13 := ⟨_, Tryz.func13, by kernel_rfl, by kernel_rfl⟩
theorem K1064 : Known Tryz.prog 10 := ⟨_, Tryz.func10, by kernel_rfl, by kernel_rfl⟩
theorem K1081 : Known Tryz.prog 129 := ⟨_, Tryz.func129, by kernel_rfl, by kernel_rfl⟩
theorem K1082 : Known Tryz.prog 130 := ⟨_, Tryz.func130, by kernel_rfl, by kernel_rfl⟩
theorem K1083 : Known Tryz.prog 131 := ⟨_, Tryz.func131, by kernel_rfl, by kernel_rfl⟩
theorem K1084 : Known Tryz.prog 132 := ⟨_, Tryz.func132, by kernel_rfl, by kernel_rfl⟩
theorem K1085 : Known Tryz.prog 28 := ⟨_, Tryz.func28, by kernel_rfl, by kernel_rfl⟩
theorem K1086 : Known Tryz.prog 30 := ⟨_, Tryz.func30, by kernel_rfl, by kernel_rfl⟩
theorem K1088 : Known Tryz.prog 31 := ⟨_, Tryz.func31, by kernel_rfl, by kernel_rfl⟩
theorem K1089 : Known Tryz.prog 78 := ⟨_, Tryz.func78, by kernel_rfl, by kernel_rfl⟩
theorem K1094 : Known Tryz.prog 79 := ⟨_, Tryz.func79, by kernel_rfl, by kernel_rfl⟩
theorem K1095 : Known Tryz.prog 80 := ⟨_, Tryz.func80, by kernel_rfl, by kernel_rfl⟩
theorem K1096 : Known Tryz.prog 81 := ⟨_, Tryz.func81, by kernel_rfl, by kernel_rfl⟩
theorem K1097 : Known Tryz.prog 82 := ⟨_, Tryz.func82, by kernel_rfl, by kernel_rfl⟩
theorem K1098 : Known Tryz.prog 63 := ⟨_, Tryz.func63, by kernel_rfl, by kernel_rfl⟩
theorem K1099 : Known Tryz.prog 76 := ⟨_, Tryz.func76, by kernel_rfl, by kernel_rfl⟩
theorem K1100 : Known Tryz.prog 77 := ⟨_, Tryz.func77, by kernel_rfl, by kernel_rfl⟩
theorem K1104 : Known Tryz.prog 37 := ⟨_, Tryz.func37, by kernel_rfl, by kernel_rfl⟩
theorem K1105 : Known Tryz.prog 38 := ⟨_, Tryz.func38, by kernel_rfl, by kernel_rfl⟩
theorem K1106 : Known Tryz.prog 39 := ⟨_, Tryz.func39, by kernel_rfl, by kernel_rfl⟩
theorem K1107 : Known Tryz.prog 40 := ⟨_, Tryz.func40, by kernel_rfl, by kernel_rfl⟩
theorem K1108 : Known Tryz.prog 41 := ⟨_, Tryz.func41, by kernel_rfl, by kernel_rfl⟩
theorem K1109 : Known Tryz.prog 42 := ⟨_, Tryz.func42, by kernel_rfl, by kernel_rfl⟩
theorem K1110 : Known Tryz.prog 98 := ⟨_, Tryz.func98, by kernel_rfl, by kernel_rfl⟩
theorem K1121 : Known Tryz.prog 35 := ⟨_, Tryz.func35, by kernel_rfl, by kernel_rfl⟩
theorem K1122 : Known Tryz.prog 44 := ⟨_, Tryz.func44, by kernel_rfl, by kernel_rfl⟩
theorem K1123 : Known Tryz.prog 34 := ⟨_, Tryz.func34, by kernel_rfl, by kernel_rfl⟩
theorem K1124 : Known Tryz.prog 36 := ⟨_, Tryz.func36, by kernel_rfl, by kernel_rfl⟩
theorem K1126 : Known Tryz.prog 32 := ⟨_, Tryz.func32, by kernel_rfl, by kernel_rfl⟩
theorem K1128 : Known Tryz.prog 91 := ⟨_, Tryz.func91, by kernel_rfl, by kernel_rfl⟩
theorem K1129 : Known Tryz.prog 85 := ⟨_, Tryz.func85, by kernel_rfl, by kernel_rfl⟩
theorem K1130 : Known Tryz.prog 136 := ⟨_, Tryz.func136, by kernel_rfl, by kernel_rfl⟩
theorem K1136 : Known Tryz.prog 165 := ⟨_, Tryz.func165, by kernel_rfl, by kernel_rfl⟩
theorem K1137 : Known Tryz.prog 126 := ⟨_, Tryz.func126, by kernel_rfl, by kernel_rfl⟩
theorem K1139 : Known Tryz.prog 87 := ⟨_, Tryz.func87, by kernel_rfl, by kernel_rfl⟩
theorem K1140 : Known Tryz.prog 88 := ⟨_, Tryz.func88, by kernel_rfl, by kernel_rfl⟩
theorem K1141 : Known Tryz.prog 89 := ⟨_, Tryz.func89, by kernel_rfl, by kernel_rfl⟩
theorem K1142 : Known Tryz.prog 90 := ⟨_, Tryz.func90, by kernel_rfl, by kernel_rfl⟩
theorem K1144 : Known Tryz.prog 93 := ⟨_, Tryz.func93, by kernel_rfl, by kernel_rfl⟩
theorem K1145 : Known Tryz.prog 94 := ⟨_, Tryz.func94, by kernel_rfl, by kernel_rfl⟩
theorem K1146 : Known Tryz.prog 95 := ⟨_, Tryz.func95, by kernel_rfl, by kernel_rfl⟩
theorem K1147 : Known Tryz.prog 96 := ⟨_, Tryz.func96, by kernel_rfl, by kernel_rfl⟩
theorem K1148 : Known Tryz.prog 97 := ⟨_, Tryz.func97, by kernel_rfl, by kernel_rfl⟩
theorem K1160 : Known Tryz.prog 83 := ⟨_, Tryz.func83, by kernel_rfl, by kernel_rfl⟩
theorem K1161 : Known Tryz.prog 84 := ⟨_, Tryz.func84, by kernel_rfl, by kernel_rfl⟩
theorem K1169 : Known Tryz.prog 134 := ⟨_, Tryz.func134, by kernel_rfl, by kernel_rfl⟩
theorem K1170 : Known Tryz.prog 135 := ⟨_, Tryz.func135, by kernel_rfl, by kernel_rfl⟩
theorem K1176 : Known Tryz.prog 127 := ⟨_, Tryz.func127, by kernel_rfl, by kernel_rfl⟩
theorem K1194 : Known Tryz.prog 160 := ⟨_, Tryz.func160, by kernel_rfl, by kernel_rfl⟩
theorem K1196 : Known Tryz.prog 154 := ⟨_, Tryz.func154, by kernel_rfl, by kernel_rfl⟩
theorem K135 : Known Tryz.prog 123 := ⟨_, Tryz.func123, by kernel_rfl, by kernel_rfl⟩
theorem K136 : Known Tryz.prog 124 := ⟨_, Tryz.func124, by kernel_rfl, by kernel_rfl⟩
theorem K144 : Known Tryz.prog 92 := ⟨_, Tryz.func92, by kernel_rfl, by kernel_rfl⟩
theorem K147 : Known Tryz.prog 68 := ⟨_, Tryz.func68, by kernel_rfl, by kernel_rfl⟩
theorem K152 : Known Tryz.prog 119 := ⟨_, Tryz.func119, by kernel_rfl, by kernel_rfl⟩
theorem K153 : Known Tryz.prog 120 := ⟨_, Tryz.func120, by kernel_rfl, by kernel_rfl⟩
theorem K154 : Known Tryz.prog 121 := ⟨_, Tryz.func121, by kernel_rfl, by kernel_rfl⟩
theorem K155 : Known Tryz.prog 122 := ⟨_, Tryz.func122, by kernel_rfl, by kernel_rfl⟩
theorem K182 : Known Tryz.prog 128 := ⟨_, Tryz.func128, by kernel_rfl, by kernel_rfl⟩
theorem K190 : Known Tryz.prog 137 := ⟨_, Tryz.func137, by kernel_rfl, by kernel_rfl⟩
theorem K2006 : Known Tryz.prog 6 := ⟨_, Tryz.func6, by kernel_rfl, by kernel_rfl⟩
theorem K2007 : Known Tryz.prog 7 := ⟨_, Tryz.func7, by kernel_rfl, by kernel_rfl⟩
theorem K2008 : Known Tryz.prog 8 := ⟨_, Tryz.func8, by kernel_rfl, by kernel_rfl⟩
theorem K2009 : Known Tryz.prog 9 := ⟨_, Tryz.func9, by kernel_rfl, by kernel_rfl⟩
theorem K202 : Known Tryz.prog 143 := ⟨_, Tryz.func143, by kernel_rfl, by kernel_rfl⟩
theorem K2024 : Known Tryz.prog 24 := ⟨_, Tryz.func24, by kernel_rfl, by kernel_rfl⟩
theorem K2025 : Known Tryz.prog 25 := ⟨_, Tryz.func25, by kernel_rfl, by kernel_rfl⟩
theorem K2026 : Known Tryz.prog 26 := ⟨_, Tryz.func26, by kernel_rfl, by kernel_rfl⟩
theorem K2027 : Known Tryz.prog 27 := ⟨_, Tryz.func27, by kernel_rfl, by kernel_rfl⟩
theorem K2056 : Known Tryz.prog 56 := ⟨_, Tryz.func56, by kernel_rfl, by kernel_rfl⟩
theorem K2059 : Known Tryz.prog 59 := ⟨_, Tryz.func59, by kernel_rfl, by kernel_rfl⟩
theorem K2067 : Known Tryz.prog 67 := ⟨_, Tryz.func67, by kernel_rfl, by kernel_rfl⟩
theorem K2069 : Known Tryz.prog 69 := ⟨_, Tryz.func69, by kernel_rfl, by kernel_rfl⟩
theorem K2070 : Known Tryz.prog 70 := ⟨_, Tryz.func70, by kernel_rfl, by kernel_rfl⟩
theorem K2072 : Known Tryz.prog 72 := ⟨_, Tryz.func72, by kernel_rfl, by kernel_rfl⟩
theorem K2074 : Known Tryz.prog 74 := ⟨_, Tryz.func74, by kernel_rfl, by kernel_rfl⟩
theorem K2075 : Known Tryz.prog 75 := ⟨_, Tryz.func75, by kernel_rfl, by kernel_rfl⟩
theorem K69 : Known Tryz.prog 73 := ⟨_, Tryz.func73, by kernel_rfl, by kernel_rfl⟩
theorem K90 : Known Tryz.prog 5 := ⟨_, Tryz.func5, by kernel_rfl, by kernel_rfl⟩
theorem K91 : Known Tryz.prog 49 := ⟨_, Tryz.func49, by kernel_rfl, by kernel_rfl⟩
theorem app1025 : appK Tryz.prog 25 = some (44, 7, 80) := by kernel_rfl
theorem app1023 : appK Tryz.prog 26 = some (40, 5, 56) := by kernel_rfl
theorem app1022 : appK Tryz.prog 48 = some (50, 3, 40) := by kernel_rfl
theorem app82 : appK Tryz.prog 51 = some (3, 1, 8) := by kernel_rfl
theorem fl2029_0 : fieldK Tryz.prog 29 0 = some (0, 1, false) := by kernel_rfl
theorem fl2029_1 : fieldK Tryz.prog 29 1 = some (1, 1, false) := by kernel_rfl
theorem fl2029_2 : fieldK Tryz.prog 29 2 = some (2, 1, false) := by kernel_rfl
theorem fl2029_3 : fieldK Tryz.prog 29 3 = some (3, 1, false) := by kernel_rfl
theorem fl46_0 : fieldK Tryz.prog 32 0 = some (0, 1, false) := by kernel_rfl
theorem fl46_1 : fieldK Tryz.prog 32 1 = some (1, 1, false) := by kernel_rfl
theorem fl46_2 : fieldK Tryz.prog 32 2 = some (2, 1, false) := by kernel_rfl
theorem fl116_0 : fieldK Tryz.prog 34 0 = some (0, 1, false) := by kernel_rfl
theorem fl116_10 : fieldK Tryz.prog 34 10 = some (12, 1, false) := by kernel_rfl
theorem fl116_2 : fieldK Tryz.prog 34 2 = some (2, 1, false) := by kernel_rfl
theorem fl116_3 : fieldK Tryz.prog 34 3 = some (3, 1, false) := by kernel_rfl
theorem fl116_6 : fieldK Tryz.prog 34 6 = some (6, 3, true) := by kernel_rfl
theorem fl116_7 : fieldK Tryz.prog 34 7 = some (9, 1, false) := by kernel_rfl
theorem fl116_8 : fieldK Tryz.prog 34 8 = some (10, 1, false) := by kernel_rfl
theorem fl116_9 : fieldK Tryz.prog 34 9 = some (11, 1, false) := by kernel_rfl
theorem fl1125_0 : fieldK Tryz.prog 40 0 = some (0, 1, false) := by kernel_rfl
theorem fl1125_1 : fieldK Tryz.prog 40 1 = some (1, 1, false) := by kernel_rfl
theorem fl1125_2 : fieldK Tryz.prog 40 2 = some (2, 1, false) := by kernel_rfl
theorem fl1125_3 : fieldK Tryz.prog 40 3 = some (3, 1, false) := by kernel_rfl
theorem fl1125_4 : fieldK Tryz.prog 40 4 = some (4, 1, false) := by kernel_rfl
theorem fl1080_0 : fieldK Tryz.prog 44 0 = some (0, 1, false) := by kernel_rfl
theorem fl1080_1 : fieldK Tryz.prog 44 1 = some (1, 1, false) := by kernel_rfl
theorem fl1080_2 : fieldK Tryz.prog 44 2 = some (2, 1, false) := by kernel_rfl
theorem fl1080_3 : fieldK Tryz.prog 44 3 = some (3, 1, false) := by kernel_rfl
theorem fl1080_4 : fieldK Tryz.prog 44 4 = some (4, 1, false) := by kernel_rfl
theorem fl1080_5 : fieldK Tryz.prog 44 5 = some (5, 1, false) := by kernel_rfl
theorem fl1080_6 : fieldK Tryz.prog 44 6 = some (6, 1, false) := by kernel_rfl
theorem fl1123_0 : fieldK Tryz.prog 50 0 = some (0, 1, false) := by kernel_rfl
theorem fl1123_1 : fieldK Tryz.prog 50 1 = some (1, 1, false) := by kernel_rfl
theorem fl1123_2 : fieldK Tryz.prog 50 2 = some (2, 1, false) := by kernel_rfl
theorem fl1107_0 : fieldK Tryz.prog 56 0 = some (0, 1, false) := by kernel_rfl
theorem fl1107_1 : fieldK Tryz.prog 56 1 = some (1, 1, false) := by kernel_rfl
theorem fl1191_0 : fieldK Tryz.prog 99 0 = some (0, 1, false) := by kernel_rfl
theorem fl1191_1 : fieldK Tryz.prog 99 1 = some (1, 1, false) := by kernel_rfl
theorem fl1191_2 : fieldK Tryz.prog 99 2 = some (2, 1, false) := by kernel_rfl
theorem fl1191_3 : fieldK Tryz.prog 99 3 = some (3, 1, false) := by kernel_rfl
theorem pl46 : placesK Tryz.prog 32 = some [(0, 1), (1, 1), (2, 1)] := by kernel_rfl
theorem pl116 : placesK Tryz.prog 34 = some [(0, 1), (1, 1), (2, 1), (3, 1), (4, 1), (5, 1), (6, 3), (9, 1), (10, 1), (11, 1), (12, 1)] := by kernel_rfl
theorem pl1125 : placesK Tryz.prog 40 = some [(0, 1), (1, 1), (2, 1), (3, 1), (4, 1)] := by kernel_rfl
theorem pl1080 : placesK Tryz.prog 44 = some [(0, 1), (1, 1), (2, 1), (3, 1), (4, 1), (5, 1), (6, 1)] := by kernel_rfl
theorem pl1123 : placesK Tryz.prog 50 = some [(0, 1), (1, 1), (2, 1)] := by kernel_rfl
theorem pl1107 : placesK Tryz.prog 56 = some [(0, 1), (1, 1)] := by kernel_rfl
theorem pl1191 : placesK Tryz.prog 99 = some [(0, 1), (1, 1), (2, 1), (3, 1)] := by kernel_rfl
theorem ty2100 : tyK Tryz.prog 100 = some (1, false) := by kernel_rfl
theorem ty1023 : tyK Tryz.prog 26 = some (1, false) := by kernel_rfl
theorem ty2027 : tyK Tryz.prog 27 = some (1, false) := by kernel_rfl
theorem ty2029 : tyK Tryz.prog 29 = some (4, true) := by kernel_rfl
theorem ty3 : tyK Tryz.prog 3 = some (1, false) := by kernel_rfl
theorem ty46 : tyK Tryz.prog 32 = some (3, true) := by kernel_rfl
theorem ty116 : tyK Tryz.prog 34 = some (13, true) := by kernel_rfl
theorem ty37 : tyK Tryz.prog 35 = some (1, false) := by kernel_rfl
theorem ty1125 : tyK Tryz.prog 40 = some (5, true) := by kernel_rfl
theorem ty1080 : tyK Tryz.prog 44 = some (7, true) := by kernel_rfl
theorem ty1111 : tyK Tryz.prog 45 = some (9, true) := by kernel_rfl
theorem ty1022 : tyK Tryz.prog 48 = some (1, false) := by kernel_rfl
theorem ty5 : tyK Tryz.prog 5 = some (1, false) := by kernel_rfl
theorem ty1123 : tyK Tryz.prog 50 = some (3, true) := by kernel_rfl
theorem ty82 : tyK Tryz.prog 51 = some (1, false) := by kernel_rfl
theorem ty1107 : tyK Tryz.prog 56 = some (2, true) := by kernel_rfl
theorem ty9 : tyK Tryz.prog 9 = some (1, false) := by kernel_rfl
theorem ty1191 : tyK Tryz.prog 99 = some (4, true) := by kernel_rfl
theorem z10 : zeroK Tryz.prog 10 = some [.string ByteArray.empty] := by kernel_rfl
theorem z11 : zeroK Tryz.prog 11 = some [.string ByteArray.empty] := by kernel_rfl
theorem z2 : zeroK Tryz.prog 2 = some [.int .i64 0] := by kernel_rfl
theorem z2029 : zeroK Tryz.prog 29 = some [.int .u16 0, .int .u16 0, .int .u8 0, .int .u8 0] := by kernel_rfl
theorem z3 : zeroK Tryz.prog 3 = some [.int .i64 0] := by kernel_rfl
theorem z46 : zeroK Tryz.prog 32 = some [.int .i64 0, .int .i64 0, .int .i64 0] := by kernel_rfl
theorem z116 : zeroK Tryz.prog 34 = some [.string ByteArray.empty, .string ByteArray.empty, .string ByteArray.empty, .string ByteArray.empty, .string ByteArray.empty, .string ByteArray.empty, .int .i64 0, .int .i64 0, .int .i64 0, .int .i64 0, .int .i64 0, .int .i64 0, .int .i64 0] := by kernel_rfl
theorem z37 : zeroK Tryz.prog 35 = some [.int .i64 0] := by kernel_rfl
theorem z4 : zeroK Tryz.prog 4 = some [.bool false] := by kernel_rfl
theorem z1125 : zeroK Tryz.prog 40 = some [.string ByteArray.empty, .int .i64 0, .int .i64 0, .int .i64 0, .string ByteArray.empty] := by kernel_rfl
theorem z1080 : zeroK Tryz.prog 44 = some [.int .i64 0, .string ByteArray.empty, .string ByteArray.empty, .int .i64 0, .int .i64 0, .int .i64 0, .string ByteArray.empty] := by kernel_rfl
theorem z1111 : zeroK Tryz.prog 45 = some [.int .i64 0, .int .i64 0, .int .i64 0, .int .i64 0, .int .i64 0, .int .i64 0, .int .i64 0, .int .i64 0, .int .i64 0] := by kernel_rfl
theorem z5 : zeroK Tryz.prog 5 = some [.int .u8 0] := by kernel_rfl
theorem z1123 : zeroK Tryz.prog 50 = some [.string ByteArray.empty, .int .i64 0, .string ByteArray.empty] := by kernel_rfl
theorem z82 : zeroK Tryz.prog 51 = some [.slice none 0 0] := by kernel_rfl
theorem z1107 : zeroK Tryz.prog 56 = some [.int .i64 0, .int .i64 0] := by kernel_rfl
theorem z6 : zeroK Tryz.prog 6 = some [.int .u8 0] := by kernel_rfl
theorem z7 : zeroK Tryz.prog 7 = some [.int .i64 0, .int .i64 0, .bool false, .int .u8 0] := by kernel_rfl
theorem z8 : zeroK Tryz.prog 8 = some [.int .i64 0, .int .i64 0, .bool false, .int .u8 0] := by kernel_rfl
theorem z9 : zeroK Tryz.prog 9 = some [.string ByteArray.empty] := by kernel_rfl
theorem z1191 : zeroK Tryz.prog 99 = some [.slice none 0 0, .slice none 0 0, .int .i64 0, .slice none 0 0] := by kernel_rfl
theorem flat1107 : flatK Tryz.prog 60 56 = some [.int .i64, .int .i64] ∧ structB Tryz.prog 56 = true ∧ Tryz.prog.eqGuardType Tryz.prog.depth 56 = false := ⟨by kernel_rfl, by kernel_rfl, by kernel_rfl⟩
theorem mk82 : mkK Tryz.prog 51 = some (3, 1, 8, [.int .i64 0]) := by kernel_rfl
end Go.Sim
