/-
  What is proved: facts of the types and the functions, and the structures of the program.
-/
import Derived.Test.YthhidpjikbhljaaGreatDoorVrA5
set_option linter.unusedSectionVars false
set_option linter.unusedSimpArgs false
set_option linter.unusedVariables false
set_option linter.unnecessarySimpa false
set_option linter.deprecated false
set_option maxRecDepth 10000
namespace Go.Sim
open Go.Proofs
structure S7 where
 x : Int
 y : Int
 signed : Bool
 code : Int
 deriving DecidableEq, Inhabited
abbrev S7.c (x : S7) : List G := [G.int x.x, G.int x.y, G.bool x.signed, G.lit (.int .u8 x.code)]
structure S13 where
 msg : ByteArray
 addr : Int
 deriving DecidableEq, Inhabited
abbrev S13.c (x : S13) : List G := [G.str x.msg, G.lit (.int .u64 x.addr)]
structure S1063 where
 Terminal : ByteArray
 Kind : ByteArray
 Length : Int
 Step : Int
 Most : Int
 deriving DecidableEq, Inhabited
abbrev S1063.c (x : S1063) : List G := [G.str x.Terminal, G.str x.Kind, G.int x.Length, G.int x.Step, G.int x.Most]
structure S1079 where
 Moment : Int
 Kind : ByteArray
 Terminal : ByteArray
 Seats : Int
 Size : Int
 Noise : Int
 Name : ByteArray
 deriving DecidableEq, Inhabited
abbrev S1079.c (x : S1079) : List G := [G.int x.Moment, G.str x.Kind, G.str x.Terminal, G.int x.Seats, G.int x.Size, G.int x.Noise, G.str x.Name]
structure S1026 where
 Limits : List S1063
 Movements : List S1079
 deriving DecidableEq, Inhabited
abbrev S1026.c (x : S1026) : List G := [G.sl 5 (List.map S1063.c x.Limits), G.sl 7 (List.map S1079.c x.Movements)]
structure S1122 where
 Name : ByteArray
 Size : Int
 Terminal : ByteArray
 deriving DecidableEq, Inhabited
abbrev S1122.c (x : S1122) : List G := [G.str x.Name, G.int x.Size, G.str x.Terminal]
structure S1124 where
 Name : ByteArray
 Start : Int
 End : Int
 Size : Int
 Terminal : ByteArray
 deriving DecidableEq, Inhabited
abbrev S1124.c (x : S1124) : List G := [G.str x.Name, G.int x.Start, G.int x.End, G.int x.Size, G.str x.Terminal]
structure S1049 where
 Stands : List S1122
 Turns : List S1124
 Buffer : Int
 deriving DecidableEq, Inhabited
abbrev S1049.c (x : S1049) : List G := [G.sl 3 (List.map S1122.c x.Stands), G.sl 5 (List.map S1124.c x.Turns), G.int x.Buffer]
structure S1071 where
 Limit : Int
 Moment : Int
 Seats : Int
 deriving DecidableEq, Inhabited
abbrev S1071.c (x : S1071) : List G := [G.int x.Limit, G.int x.Moment, G.int x.Seats]
structure S1085 where
 fFrom : Int
 fTo : Int
 deriving DecidableEq, Inhabited
abbrev S1085.c (x : S1085) : List G := [G.int x.fFrom, G.int x.fTo]
structure S67 where
 Year : Int
 Kind : ByteArray
 deriving DecidableEq, Inhabited
abbrev S67.c (x : S67) : List G := [G.int x.Year, G.str x.Kind]
structure S1089 where
 Night : S1085
 Season : S67
 Count : Int
 Points : Int
 deriving DecidableEq, Inhabited
abbrev S1089.c (x : S1089) : List G := [G.int x.Night.fFrom, G.int x.Night.fTo, G.int x.Season.Year, G.str x.Season.Kind, G.int x.Count, G.int x.Points]
structure S1095 where
 Night : S1085
 Season : S67
 Count : Int
 Points : Int
 deriving DecidableEq, Inhabited
abbrev S1095.c (x : S1095) : List G := [G.int x.Night.fFrom, G.int x.Night.fTo, G.int x.Season.Year, G.str x.Season.Kind, G.int x.Count, G.int x.Points]
structure S1106 where
 Moment : Int
 Size : Int
 deriving DecidableEq, Inhabited
abbrev S1106.c (x : S1106) : List G := [G.int x.Moment, G.int x.Size]
structure S1128 where
 Arrival : S1079
 Departure : S1079
 Least : Int
 Most : Int
 deriving DecidableEq, Inhabited
abbrev S1128.c (x : S1128) : List G := [G.int x.Arrival.Moment, G.str x.Arrival.Kind, G.str x.Arrival.Terminal, G.int x.Arrival.Seats, G.int x.Arrival.Size, G.int x.Arrival.Noise, G.str x.Arrival.Name, G.int x.Departure.Moment, G.str x.Departure.Kind, G.str x.Departure.Terminal, G.int x.Departure.Seats, G.int x.Departure.Size, G.int x.Departure.Noise, G.str x.Departure.Name, G.int x.Least, G.int x.Most]
structure S1143 where
 Count : Int
 Points : Int
 deriving DecidableEq, Inhabited
abbrev S1143.c (x : S1143) : List G := [G.int x.Count, G.int x.Points]
structure S1154 where
 Name : ByteArray
 Sum : S1143
 deriving DecidableEq, Inhabited
abbrev S1154.c (x : S1154) : List G := [G.str x.Name, G.int x.Sum.Count, G.int x.Sum.Points]
structure S1156 where
 Name : ByteArray
 Sum : S1143
 deriving DecidableEq, Inhabited
abbrev S1156.c (x : S1156) : List G := [G.str x.Name, G.int x.Sum.Count, G.int x.Sum.Points]
structure S45 where
 fFrom : Int
 fTo : Int
 Days : Int
 deriving DecidableEq, Inhabited
abbrev S45.c (x : S45) : List G := [G.int x.fFrom, G.int x.fTo, G.int x.Days]
structure S1190 where
 stands : List S1122
 turns : List S1124
 buffer : Int
 given : List Int
 deriving DecidableEq, Inhabited
abbrev S1190.c (x : S1190) : List G := [G.sl 3 (List.map S1122.c x.stands), G.sl 5 (List.map S1124.c x.turns), G.int x.buffer, G.sl 1 (List.map cInt x.given)]
structure S1195 where
 moments : List Int
 before : List Int
 deriving DecidableEq, Inhabited
abbrev S1195.c (x : S1195) : List G := [G.sl 1 (List.map cInt x.moments), G.sl 1 (List.map cInt x.before)]
theorem K1015 : Known Tryz.prog 15 := ⟨_, Tryz.func15, by kernel_rfl, by kernel_rfl⟩
theorem K1016 : Known Tryz.prog 16 := ⟨_, Tryz.func16, by kernel_rfl, by kernel_rfl⟩
theorem K1017 : Known Tryz.prog 17 := ⟨_, Tryz.func17, by kernel_rfl, by kernel_rfl⟩
theorem K1018 : Known Tryz.prog 18 := ⟨_, Tryz.func18, by kernel_rfl, by kernel_rfl⟩
theorem K1019 : Known Tryz.prog 19 := ⟨_, Tryz.func19, by kernel_rfl, by kernel_rfl⟩
theorem K1023 : Known Tryz.prog 23 := ⟨_, Tryz.func23, by kernel_rfl, by kernel_rfl⟩
theorem K1024 : Known Tryz.prog 24 := ⟨_, Tryz.func24, by kernel_rfl, by kernel_rfl⟩
theorem K1025 : Known Tryz.prog 25 := ⟨_, Tryz.func25, by kernel_rfl, by kernel_rfl⟩
theorem K1026 : Known Tryz.prog 26 := ⟨_, Tryz.func26, by kernel_rfl, by kernel_rfl⟩
theorem K1031 : Known Tryz.prog 31 := ⟨_, Tryz.func31, by kernel_rfl, by kernel_rfl⟩
theorem K1032 : Known Tryz.prog 32 := ⟨_, Tryz.func32, by kernel_rfl, by kernel_rfl⟩
theorem K1033 : Known Tryz.prog 33 := ⟨_, Tryz.func33, by kernel_rfl, by kernel_rfl⟩
theorem K1034 : Known Tryz.prog 34 := ⟨_, Tryz.func34, by kernel_rfl, by kernel_rfl⟩
theorem K1040 : Known Tryz.prog 40 := ⟨_, Tryz.func40, by kernel_rfl, by kernel_rfl⟩
theorem K1054 : Known Tryz.prog 54 := ⟨_, Tryz.func54, by kernel_rfl, by kernel_rfl⟩
theorem K1055 : Known Tryz.prog 55 := ⟨_, Tryz.func55, by kernel_rfl, by kernel_rfl⟩
theorem K1056 : Known Tryz.prog 56 := ⟨_, Tryz.func56, by kernel_rfl, by kernel_rfl⟩
theorem K1058 : Known Tryz.prog 58 := ⟨_, Tryz.func58, by kernel_rfl, by kernel_rfl⟩
theorem K1081 : Known Tryz.prog 81 := ⟨_, Tryz.func81, by kernel_rfl, by kernel_rfl⟩
theorem K1082 : Known Tryz.prog 82 := ⟨_, Tryz.func82, by kernel_rfl, by kernel_rfl⟩
theorem K1083 : Known Tryz.prog 83 := ⟨_, Tryz.func83, by kernel_rfl, by kernel_rfl⟩
theorem K1084 : Known Tryz.prog 84 := ⟨_, Tryz.func84, by kernel_rfl, by kernel_rfl⟩
theorem K1085 : Known Tryz.prog 85 := ⟨_, Tryz.func85, by kernel_rfl, by kernel_rfl⟩
theorem K1086 : Known Tryz.prog 86 := ⟨_, Tryz.func86, by kernel_rfl, by kernel_rfl⟩
theorem K1088 : Known Tryz.prog 88 := ⟨_, Tryz.func88, by kernel_rfl, by kernel_rfl⟩
theorem K1089 : Known Tryz.prog 89 := ⟨_, Tryz.func89, by kernel_rfl, by kernel_rfl⟩
theorem K1092 : Known Tryz.prog 92 := ⟨_, Tryz.func92, by kernel_rfl, by kernel_rfl⟩
theorem K1093 : Known Tryz.prog 93 := ⟨_, Tryz.func93, by kernel_rfl, by kernel_rfl⟩
theorem K1094 : Known Tryz.prog 94 := ⟨_, Tryz.func94, by kernel_rfl, by kernel_rfl⟩
theorem K1095 : Known Tryz.prog 95 := ⟨_, Tryz.func95, by kernel_rfl, by kernel_rfl⟩
theorem K1096 : Known Tryz.prog 96 := ⟨_, Tryz.func96, by kernel_rfl, by kernel_rfl⟩
theorem K1097 : Known Tryz.prog 97 := ⟨_, Tryz.func97, by kernel_rfl, by kernel_rfl⟩
theorem K1098 : Known Tryz.prog 98 := ⟨_, Tryz.func98, by kernel_rfl, by kernel_rfl⟩
theorem K1104 : Known Tryz.prog 104 := ⟨_, Tryz.func104, by kernel_rfl, by kernel_rfl⟩
theorem K1105 : Known Tryz.prog 105 := ⟨_, Tryz.func105, by kernel_rfl, by kernel_rfl⟩
theorem K1106 : Known Tryz.prog 106 := ⟨_, Tryz.func106, by kernel_rfl, by kernel_rfl⟩
theorem K1107 : Known Tryz.prog 107 := ⟨_, Tryz.func107, by kernel_rfl, by kernel_rfl⟩
theorem K1108 : Known Tryz.prog 108 := ⟨_, Tryz.func108, by kernel_rfl, by kernel_rfl⟩
theorem K1109 : Known Tryz.prog 109 := ⟨_, Tryz.func109, by kernel_rfl, by kernel_rfl⟩
theorem K1110 : Known Tryz.prog 110 := ⟨_, Tryz.func110, by kernel_rfl, by kernel_rfl⟩
theorem K1121 : Known Tryz.prog 121 := ⟨_, Tryz.func121, by kernel_rfl, by kernel_rfl⟩
theorem K1122 : Known Tryz.prog 122 := ⟨_, Tryz.func122, by kernel_rfl, by kernel_rfl⟩
theorem K1123 : Known Tryz.prog 123 := ⟨_, Tryz.func123, by kernel_rfl, by kernel_rfl⟩
theorem K1124 : Known Tryz.prog 124 := ⟨_, Tryz.func124, by kernel_rfl, by kernel_rfl⟩
theorem K1126 : Known Tryz.prog 126 := ⟨_, Tryz.func126, by kernel_rfl, by kernel_rfl⟩
theorem K1128 : Known Tryz.prog 128 := ⟨_, Tryz.func128, by kernel_rfl, by kernel_rfl⟩
theorem K1129 : Known Tryz.prog 129 := ⟨_, Tryz.func129, by kernel_rfl, by kernel_rfl⟩
theorem K1130 : Known Tryz.prog 130 := ⟨_, Tryz.func130, by kernel_rfl, by kernel_rfl⟩
theorem K1136 : Known Tryz.prog 136 := ⟨_, Tryz.func136, by kernel_rfl, by kernel_rfl⟩
theorem K1137 : Known Tryz.prog 137 := ⟨_, Tryz.func137, by kernel_rfl, by kernel_rfl⟩
theorem K1139 : Known Tryz.prog 139 := ⟨_, Tryz.func139, by kernel_rfl, by kernel_rfl⟩
theorem K1140 : Known Tryz.prog 140 := ⟨_, Tryz.func140, by kernel_rfl, by kernel_rfl⟩
theorem K1141 : Known Tryz.prog 141 := ⟨_, Tryz.func141, by kernel_rfl, by kernel_rfl⟩
theorem K1142 : Known Tryz.prog 142 := ⟨_, Tryz.func142, by kernel_rfl, by kernel_rfl⟩
theorem K1144 : Known Tryz.prog 144 := ⟨_, Tryz.func144, by kernel_rfl, by kernel_rfl⟩
theorem K1145 : Known Tryz.prog 145 := ⟨_, Tryz.func145, by kernel_rfl, by kernel_rfl⟩
theorem K1146 : Known Tryz.prog 146 := ⟨_, Tryz.func146, by kernel_rfl, by kernel_rfl⟩
theorem K1147 : Known Tryz.prog 147 := ⟨_, Tryz.func147, by kernel_rfl, by kernel_rfl⟩
theorem K1148 : Known Tryz.prog 148 := ⟨_, Tryz.func148, by kernel_rfl, by kernel_rfl⟩
theorem K1160 : Known Tryz.prog 160 := ⟨_, Tryz.func160, by kernel_rfl, by kernel_rfl⟩
theorem K1161 : Known Tryz.prog 161 := ⟨_, Tryz.func161, by kernel_rfl, by kernel_rfl⟩
theorem K1169 : Known Tryz.prog 169 := ⟨_, Tryz.func169, by kernel_rfl, by kernel_rfl⟩
theorem K1170 : Known Tryz.prog 170 := ⟨_, Tryz.func170, by kernel_rfl, by kernel_rfl⟩
theorem K1176 : Known Tryz.prog 176 := ⟨_, Tryz.func176, by kernel_rfl, by kernel_rfl⟩
theorem K1194 : Known Tryz.prog 194 := ⟨_, Tryz.func194, by kernel_rfl, by kernel_rfl⟩
theorem K1196 : Known Tryz.prog 196 := ⟨_, Tryz.func196, by kernel_rfl, by kernel_rfl⟩
theorem K144 : Known Tryz.prog 143 := ⟨_, Tryz.func143, by kernel_rfl, by kernel_rfl⟩
theorem K147 : Known Tryz.prog 87 := ⟨_, Tryz.func87, by kernel_rfl, by kernel_rfl⟩
theorem K182 : Known Tryz.prog 164 := ⟨_, Tryz.func164, by kernel_rfl, by kernel_rfl⟩
theorem K190 : Known Tryz.prog 171 := ⟨_, Tryz.func171, by kernel_rfl, by kernel_rfl⟩
theorem K202 : Known Tryz.prog 174 := ⟨_, Tryz.func174, by kernel_rfl, by kernel_rfl⟩
theorem K83 : Known Tryz.prog 63 := ⟨_, Tryz.func63, by kernel_rfl, by kernel_rfl⟩
theorem K89 : Known Tryz.prog 91 := ⟨_, Tryz.func91, by kernel_rfl, by kernel_rfl⟩
theorem K90 : Known Tryz.prog 53 := ⟨_, Tryz.func53, by kernel_rfl, by kernel_rfl⟩
theorem K91 : Known Tryz.prog 90 := ⟨_, Tryz.func90, by kernel_rfl, by kernel_rfl⟩
theorem K96 : Known Tryz.prog 41 := ⟨_, Tryz.func41, by kernel_rfl, by kernel_rfl⟩
theorem app1022 : appK Tryz.prog 22 = some (123, 3, 40) := by kernel_rfl
theorem app1023 : appK Tryz.prog 23 = some (125, 5, 56) := by kernel_rfl
theorem app1030 : appK Tryz.prog 30 = some (139, 3, 40) := by kernel_rfl
theorem app1033 : appK Tryz.prog 33 = some (134, 5, 56) := by kernel_rfl
theorem app82 : appK Tryz.prog 51 = some (3, 1, 8) := by kernel_rfl
theorem fl1107_0 : fieldK Tryz.prog 107 0 = some (0, 1, false) := by kernel_rfl
theorem fl1107_1 : fieldK Tryz.prog 107 1 = some (1, 1, false) := by kernel_rfl
theorem fl1123_0 : fieldK Tryz.prog 123 0 = some (0, 1, false) := by kernel_rfl
theorem fl1123_1 : fieldK Tryz.prog 123 1 = some (1, 1, false) := by kernel_rfl
theorem fl1123_2 : fieldK Tryz.prog 123 2 = some (2, 1, false) := by kernel_rfl
theorem fl1125_0 : fieldK Tryz.prog 125 0 = some (0, 1, false) := by kernel_rfl
theorem fl1125_1 : fieldK Tryz.prog 125 1 = some (1, 1, false) := by kernel_rfl
theorem fl1125_2 : fieldK Tryz.prog 125 2 = some (2, 1, false) := by kernel_rfl
theorem fl1125_3 : fieldK Tryz.prog 125 3 = some (3, 1, false) := by kernel_rfl
theorem fl1125_4 : fieldK Tryz.prog 125 4 = some (4, 1, false) := by kernel_rfl
theorem fl1134_0 : fieldK Tryz.prog 134 0 = some (0, 1, false) := by kernel_rfl
theorem fl1134_1 : fieldK Tryz.prog 134 1 = some (1, 1, false) := by kernel_rfl
theorem fl1134_2 : fieldK Tryz.prog 134 2 = some (2, 1, false) := by kernel_rfl
theorem fl1134_3 : fieldK Tryz.prog 134 3 = some (3, 1, false) := by kernel_rfl
theorem fl1134_4 : fieldK Tryz.prog 134 4 = some (4, 1, false) := by kernel_rfl
theorem fl1139_0 : fieldK Tryz.prog 139 0 = some (0, 1, false) := by kernel_rfl
theorem fl1139_1 : fieldK Tryz.prog 139 1 = some (1, 1, false) := by kernel_rfl
theorem fl1139_2 : fieldK Tryz.prog 139 2 = some (2, 1, false) := by kernel_rfl
theorem fl1191_0 : fieldK Tryz.prog 191 0 = some (0, 1, false) := by kernel_rfl
theorem fl1191_1 : fieldK Tryz.prog 191 1 = some (1, 1, false) := by kernel_rfl
theorem fl1191_2 : fieldK Tryz.prog 191 2 = some (2, 1, false) := by kernel_rfl
theorem fl1191_3 : fieldK Tryz.prog 191 3 = some (3, 1, false) := by kernel_rfl
theorem fl1050_0 : fieldK Tryz.prog 50 0 = some (0, 1, false) := by kernel_rfl
theorem fl1050_1 : fieldK Tryz.prog 50 1 = some (1, 1, false) := by kernel_rfl
theorem fl1050_2 : fieldK Tryz.prog 50 2 = some (2, 1, false) := by kernel_rfl
theorem pl1107 : placesK Tryz.prog 107 = some [(0, 1), (1, 1)] := by kernel_rfl
theorem pl1123 : placesK Tryz.prog 123 = some [(0, 1), (1, 1), (2, 1)] := by kernel_rfl
theorem pl1191 : placesK Tryz.prog 191 = some [(0, 1), (1, 1), (2, 1), (3, 1)] := by kernel_rfl
theorem ty1107 : tyK Tryz.prog 107 = some (2, true) := by kernel_rfl
theorem ty1111 : tyK Tryz.prog 111 = some (9, true) := by kernel_rfl
theorem ty1123 : tyK Tryz.prog 123 = some (3, true) := by kernel_rfl
theorem ty1125 : tyK Tryz.prog 125 = some (5, true) := by kernel_rfl
theorem ty1134 : tyK Tryz.prog 134 = some (5, true) := by kernel_rfl
theorem ty1139 : tyK Tryz.prog 139 = some (3, true) := by kernel_rfl
theorem ty1191 : tyK Tryz.prog 191 = some (4, true) := by kernel_rfl
theorem ty192 : tyK Tryz.prog 192 = some (1, false) := by kernel_rfl
theorem ty1022 : tyK Tryz.prog 22 = some (1, false) := by kernel_rfl
theorem ty1023 : tyK Tryz.prog 23 = some (1, false) := by kernel_rfl
theorem ty3 : tyK Tryz.prog 3 = some (1, false) := by kernel_rfl
theorem ty37 : tyK Tryz.prog 39 = some (1, false) := by kernel_rfl
theorem ty1050 : tyK Tryz.prog 50 = some (3, true) := by kernel_rfl
theorem ty82 : tyK Tryz.prog 51 = some (1, false) := by kernel_rfl
theorem ty9 : tyK Tryz.prog 9 = some (1, false) := by kernel_rfl
theorem z10 : zeroK Tryz.prog 10 = some [.string ByteArray.empty] := by kernel_rfl
theorem z1107 : zeroK Tryz.prog 107 = some [.int .i64 0, .int .i64 0] := by kernel_rfl
theorem z11 : zeroK Tryz.prog 11 = some [.string ByteArray.empty] := by kernel_rfl
theorem z1111 : zeroK Tryz.prog 111 = some [.int .i64 0, .int .i64 0, .int .i64 0, .int .i64 0, .int .i64 0, .int .i64 0, .int .i64 0, .int .i64 0, .int .i64 0] := by kernel_rfl
theorem z1123 : zeroK Tryz.prog 123 = some [.string ByteArray.empty, .int .i64 0, .string ByteArray.empty] := by kernel_rfl
theorem z1125 : zeroK Tryz.prog 125 = some [.string ByteArray.empty, .int .i64 0, .int .i64 0, .int .i64 0, .string ByteArray.empty] := by kernel_rfl
theorem z1134 : zeroK Tryz.prog 134 = some [.string ByteArray.empty, .int .i64 0, .int .i64 0, .int .i64 0, .string ByteArray.empty] := by kernel_rfl
theorem z1139 : zeroK Tryz.prog 139 = some [.string ByteArray.empty, .int .i64 0, .string ByteArray.empty] := by kernel_rfl
theorem z1191 : zeroK Tryz.prog 191 = some [.slice none 0 0, .slice none 0 0, .int .i64 0, .slice none 0 0] := by kernel_rfl
theorem z2 : zeroK Tryz.prog 2 = some [.int .i64 0] := by kernel_rfl
theorem z3 : zeroK Tryz.prog 3 = some [.int .i64 0] := by kernel_rfl
theorem z37 : zeroK Tryz.prog 39 = some [.int .i64 0] := by kernel_rfl
theorem z4 : zeroK Tryz.prog 4 = some [.bool false] := by kernel_rfl
theorem z5 : zeroK Tryz.prog 5 = some [.int .u8 0] := by kernel_rfl
theorem z82 : zeroK Tryz.prog 51 = some [.slice none 0 0] := by kernel_rfl
theorem z6 : zeroK Tryz.prog 6 = some [.int .u8 0] := by kernel_rfl
theorem z7 : zeroK Tryz.prog 7 = some [.int .i64 0, .int .i64 0, .bool false, .int .u8 0] := by kernel_rfl
theorem z8 : zeroK Tryz.prog 8 = some [.int .i64 0, .int .i64 0, .bool false, .int .u8 0] := by kernel_rfl
theorem z9 : zeroK Tryz.prog 9 = some [.string ByteArray.empty] := by kernel_rfl
theorem flat1107 : flatK Tryz.prog 60 107 = some [.int .i64, .int .i64] ∧ structB Tryz.prog 107 = true ∧ Tryz.prog.eqGuardType Tryz.prog.depth 107 = false := ⟨by kernel_rfl, by kernel_rfl, by kernel_rfl⟩
theorem mk82 : mkK Tryz.prog 51 = some (3, 1, 8, [.int .i64 0]) := by kernel_rfl
end Go.Sim
