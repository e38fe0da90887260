/-
  What is proved: facts of the types and the functions, and the structures of the program.
-/
import Derived.Test.YthhidpjikbhljaaGreatDoorVrA5
set_option linter.unusedSectionVars false
set_option linter.unusedSimpArgs false
set_option linter.unusedVariables false
set_option linter.unnecessarySimpa false
set_option linter.deprecated false
set_option maxRecDepth 10000
namespace Go.Sim
open Go.Proofs
structure S7 where
 x : Int
 y : Int
 signed : Bool
 code : Int
 deriving DecidableEq, Inhabited
abbrev S7.c (x : S7) : List G := [G.int x.x, G.int x.y, G.bool x.signed, G.lit (.int .u8 x.code)]
structure S13 where
 msg : ByteArray
 addr : Int
 deriving DecidableEq, Inhabited
abbrev S13.c (x : S13) : List G := [G.str x.msg, G.lit (.int .u64 x.addr)]
structure S1063 where
 Terminal : ByteArray
 Kind : ByteArray
 Length : Int
 Step : Int
 Most : Int
 deriving DecidableEq, Inhabited
abbrev S1063.c (x : S1063) : List G := [G.str x.Terminal, G.str x.Kind, G.int x.Length, G.int x.Step, G.int x.Most]
structure S1079 where
 Moment : Int
 Kind : ByteArray
 Terminal : ByteArray
 Seats : Int
 Size : Int
 Noise : Int
 Name : ByteArray
 deriving DecidableEq, Inhabited
abbrev S1079.c (x : S1079) : List G := [G.int x.Moment, G.str x.Kind, G.str x.Terminal, G.int x.Seats, G.int x.Size, G.int x.Noise, G.str x.Name]
structure S1026 where
 Limits : List S1063
 Movements : List S1079
 deriving DecidableEq, Inhabited
abbrev S1026.c (x : S1026) : List G := [G.sl 5 (List.map S1063.c x.Limits), G.sl 7 (List.map S1079.c x.Movements)]
structure S1122 where
 Name : ByteArray
 Size : Int
 Terminal : ByteArray
 deriving DecidableEq, Inhabited
abbrev S1122.c (x : S1122) : List G := [G.str x.Name, G.int x.Size, G.str x.Terminal]
structure S1124 where
 Name : ByteArray
 Start : Int
 End : Int
 Size : Int
 Terminal : ByteArray
 deriving DecidableEq, Inhabited
abbrev S1124.c (x : S1124) : List G := [G.str x.Name, G.int x.Start, G.int x.End, G.int x.Size, G.str x.Terminal]
structure S1049 where
 Stands : List S1122
 Turns : List S1124
 Buffer : Int
 deriving DecidableEq, Inhabited
abbrev S1049.c (x : S1049) : List G := [G.sl 3 (List.map S1122.c x.Stands), G.sl 5 (List.map S1124.c x.Turns), G.int x.Buffer]
structure S1071 where
 Limit : Int
 Moment : Int
 Seats : Int
 deriving DecidableEq, Inhabited
abbrev S1071.c (x : S1071) : List G := [G.int x.Limit, G.int x.Moment, G.int x.Seats]
structure S1085 where
 fFrom : Int
 fTo : Int
 deriving DecidableEq, Inhabited
abbrev S1085.c (x : S1085) : List G := [G.int x.fFrom, G.int x.fTo]
structure S67 where
 Year : Int
 Kind : ByteArray
 deriving DecidableEq, Inhabited
abbrev S67.c (x : S67) : List G := [G.int x.Year, G.str x.Kind]
structure S1089 where
 Night : S1085
 Season : S67
 Count : Int
 Points : Int
 deriving DecidableEq, Inhabited
abbrev S1089.c (x : S1089) : List G := [G.int x.Night.fFrom, G.int x.Night.fTo, G.int x.Season.Year, G.str x.Season.Kind, G.int x.Count, G.int x.Points]
structure S1095 where
 Night : S1085
 Season : S67
 Count : Int
 Points : Int
 deriving DecidableEq, Inhabited
abbrev S1095.c (x : S1095) : List G := [G.int x.Night.fFrom, G.int x.Night.fTo, G.int x.Season.Year, G.str x.Season.Kind, G.int x.Count, G.int x.Points]
structure S1106 where
 Moment : Int
 Size : Int
 deriving DecidableEq, Inhabited
abbrev S1106.c (x : S1106) : List G := [G.int x.Moment, G.int x.Size]
structure S1128 where
 Arrival : S1079
 Departure : S1079
 Least : Int
 Most : Int
 deriving DecidableEq, Inhabited
abbrev S1128.c (x : S1128) : List G := [G.int x.Arrival.Moment, G.str x.Arrival.Kind, G.str x.Arrival.Terminal, G.int x.Arrival.Seats, G.int x.Arrival.Size, G.int x.Arrival.Noise, G.str x.Arrival.Name, G.int x.Departure.Moment, G.str x.Departure.Kind, G.str x.Departure.Terminal, G.int x.Departure.Seats, G.int x.Departure.Size, G.int x.Departure.Noise, G.str x.Departure.Name, G.int x.Least, G.int x.Most]
structure S1143 where
 Count : Int
 Points : Int
 deriving DecidableEq, Inhabited
abbrev S1143.c (x : S1143) : List G := [G.int x.Count, G.int x.Points]
structure S1154 where
 Name : ByteArray
 Sum : S1143
 deriving DecidableEq, Inhabited
abbrev S1154.c (x : S1154) : List G := [G.str x.Name, G.int x.Sum.Count, G.int x.Sum.Points]
structure S1156 where
 Name : ByteArray
 Sum : S1143
 deriving DecidableEq, Inhabited
abbrev S1156.c (x : S1156) : List G := [G.str x.Name, G.int x.Sum.Count, G.int x.Sum.Points]
structure S45 where
 fFrom : Int
 fTo : Int
 Days : Int
 deriving DecidableEq, Inhabited
abbrev S45.c (x : S45) : List G := [G.int x.fFrom, G.int x.fTo, G.int x.Days]
structure S1190 where
 stands : List S1122
 turns : List S1124
 buffer : Int
 given : List Int
 deriving DecidableEq, Inhabited
abbrev S1190.c (x : S1190) : List G := [G.sl 3 (List.map S1122.c x.stands), G.sl 5 (List.map S1124.c x.turns), G.int x.buffer, G.sl 1 (List.map cInt x.given)]
structure S1195 where
 moments : List Int
 before : List Int
 deriving DecidableEq, Inhabited
abbrev S1195.c (x : S1195) : List G := [G.sl 1 (List.map cInt x.moments), G.sl 1 (List.map cInt x.before)]
theorem K1015 : Known Tryz.prog 15 := ⟨_, Tryz.func15, by kernel_rfl, by kernel_rfl⟩
theorem K1020 : Known Tryz.prog 20 := ⟨_, Tryz.func20, by kernel_rfl, by kernel_rfl⟩
theorem K1027 : Known Tryz.prog 27 := ⟨_, Tryz.func27, by kernel_rfl, by kernel_rfl⟩
theorem K1028 : Known Tryz.prog 28 := ⟨_, Tryz.func28, by kernel_rfl, by kernel_rfl⟩
theorem K1047 : Known Tryz.prog 47 := ⟨_, Tryz.func47, by kernel_rfl, by kernel_rfl⟩
theorem K1048 : Known Tryz.prog 48 := ⟨_, Tryz.func48, by kernel_rfl, by kernel_rfl⟩
theorem K1049 : Known Tryz.prog 49 := ⟨_, Tryz.func49, by kernel_rfl, by kernel_rfl⟩
theorem K1050 : Known Tryz.prog 50 := ⟨_, Tryz.func50, by kernel_rfl, by kernel_rfl⟩
theorem K1051 : Known Tryz.prog 51 := ⟨_, Tryz.func51, by kernel_rfl, by kernel_rfl⟩
theorem K107 : Known Tryz.prog 118 := ⟨_, Tryz.func118, by kernel_rfl, by kernel_rfl⟩
theorem K1071 : Known Tryz.prog 71 := ⟨_, Tryz.func71, by kernel_rfl, by kernel_rfl⟩
theorem K1072 : Known Tryz.prog 72 := ⟨_, Tryz.func72, by kernel_rfl, by kernel_rfl⟩
theorem K1073 : Known Tryz.prog 73 := ⟨_, Tryz.func73, by kernel_rfl, by kernel_rfl⟩
theorem K1085 : Known Tryz.prog 85 := ⟨_, Tryz.func85, by kernel_rfl, by kernel_rfl⟩
theorem K1086 : Known Tryz.prog 86 := ⟨_, Tryz.func86, by kernel_rfl, by kernel_rfl⟩
theorem K1088 : Known Tryz.prog 88 := ⟨_, Tryz.func88, by kernel_rfl, by kernel_rfl⟩
theorem K1089 : Known Tryz.prog 89 := ⟨_, Tryz.func89, by kernel_rfl, by kernel_rfl⟩
theorem K1092 : Known Tryz.prog 92 := ⟨_, Tryz.func92, by kernel_rfl, by kernel_rfl⟩
theorem K1093 : Known Tryz.prog 93 := ⟨_, Tryz.func93, by kernel_rfl, by kernel_rfl⟩
theorem K1098 : Known Tryz.prog 98 := ⟨_, Tryz.func98, by kernel_rfl, by kernel_rfl⟩
theorem K1099 : Known Tryz.prog 99 := ⟨_, Tryz.func99, by kernel_rfl, by kernel_rfl⟩
theorem K1100 : Known Tryz.prog 100 := ⟨_, Tryz.func100, by kernel_rfl, by kernel_rfl⟩
theorem K111 : Known Tryz.prog 76 := ⟨_, Tryz.func76, by kernel_rfl, by kernel_rfl⟩
theorem K1117 : Known Tryz.prog 117 := ⟨_, Tryz.func117, by kernel_rfl, by kernel_rfl⟩
theorem K1120 : Known Tryz.prog 120 := ⟨_, Tryz.func120, by kernel_rfl, by kernel_rfl⟩
theorem K1132 : Known Tryz.prog 132 := ⟨_, Tryz.func132, by kernel_rfl, by kernel_rfl⟩
theorem K1133 : Known Tryz.prog 133 := ⟨_, Tryz.func133, by kernel_rfl, by kernel_rfl⟩
theorem K1134 : Known Tryz.prog 134 := ⟨_, Tryz.func134, by kernel_rfl, by kernel_rfl⟩
theorem K1163 : Known Tryz.prog 163 := ⟨_, Tryz.func163, by kernel_rfl, by kernel_rfl⟩
theorem K1179 : Known Tryz.prog 179 := ⟨_, Tryz.func179, by kernel_rfl, by kernel_rfl⟩
theorem K133 : Known Tryz.prog 165 := ⟨_, Tryz.func165, by kernel_rfl, by kernel_rfl⟩
theorem K138 : Known Tryz.prog 177 := ⟨_, Tryz.func177, by kernel_rfl, by kernel_rfl⟩
theorem K139 : Known Tryz.prog 178 := ⟨_, Tryz.func178, by kernel_rfl, by kernel_rfl⟩
theorem K147 : Known Tryz.prog 87 := ⟨_, Tryz.func87, by kernel_rfl, by kernel_rfl⟩
theorem K152 : Known Tryz.prog 157 := ⟨_, Tryz.func157, by kernel_rfl, by kernel_rfl⟩
theorem K154 : Known Tryz.prog 159 := ⟨_, Tryz.func159, by kernel_rfl, by kernel_rfl⟩
theorem K155 : Known Tryz.prog 158 := ⟨_, Tryz.func158, by kernel_rfl, by kernel_rfl⟩
theorem K162 : Known Tryz.prog 135 := ⟨_, Tryz.func135, by kernel_rfl, by kernel_rfl⟩
theorem K180 : Known Tryz.prog 167 := ⟨_, Tryz.func167, by kernel_rfl, by kernel_rfl⟩
theorem K182 : Known Tryz.prog 164 := ⟨_, Tryz.func164, by kernel_rfl, by kernel_rfl⟩
theorem K183 : Known Tryz.prog 189 := ⟨_, Tryz.func189, by kernel_rfl, by kernel_rfl⟩
theorem K188 : Known Tryz.prog 216 := ⟨_, Tryz.func216, by kernel_rfl, by kernel_rfl⟩
theorem K189 : Known Tryz.prog 204 := ⟨_, Tryz.func204, by kernel_rfl, by kernel_rfl⟩
theorem K198 : Known Tryz.prog 191 := ⟨_, Tryz.func191, by kernel_rfl, by kernel_rfl⟩
theorem K199 : Known Tryz.prog 190 := ⟨_, Tryz.func190, by kernel_rfl, by kernel_rfl⟩
theorem K200 : Known Tryz.prog 166 := ⟨_, Tryz.func166, by kernel_rfl, by kernel_rfl⟩
theorem K221 : Known Tryz.prog 215 := ⟨_, Tryz.func215, by kernel_rfl, by kernel_rfl⟩
theorem K222 : Known Tryz.prog 220 := ⟨_, Tryz.func220, by kernel_rfl, by kernel_rfl⟩
theorem K223 : Known Tryz.prog 221 := ⟨_, Tryz.func221, by kernel_rfl, by kernel_rfl⟩
theorem K224 : Known Tryz.prog 210 := ⟨_, Tryz.func210, by kernel_rfl, by kernel_rfl⟩
theorem K248 : Known Tryz.prog 222 := ⟨_, Tryz.func222, by kernel_rfl, by kernel_rfl⟩
theorem K41 : Known Tryz.prog 119 := ⟨_, Tryz.func119, by kernel_rfl, by kernel_rfl⟩
theorem K70 : Known Tryz.prog 162 := ⟨_, Tryz.func162, by kernel_rfl, by kernel_rfl⟩
theorem K89 : Known Tryz.prog 91 := ⟨_, Tryz.func91, by kernel_rfl, by kernel_rfl⟩
theorem K90 : Known Tryz.prog 53 := ⟨_, Tryz.func53, by kernel_rfl, by kernel_rfl⟩
theorem K91 : Known Tryz.prog 90 := ⟨_, Tryz.func90, by kernel_rfl, by kernel_rfl⟩
theorem K96 : Known Tryz.prog 41 := ⟨_, Tryz.func41, by kernel_rfl, by kernel_rfl⟩
theorem app1147 : appK Tryz.prog 147 = some (155, 3, 32) := by kernel_rfl
theorem app1025 : appK Tryz.prog 25 = some (80, 7, 80) := by kernel_rfl
theorem fl1144_0 : fieldK Tryz.prog 144 0 = some (0, 1, false) := by kernel_rfl
theorem fl1144_1 : fieldK Tryz.prog 144 1 = some (1, 1, false) := by kernel_rfl
theorem fl1155_0 : fieldK Tryz.prog 155 0 = some (0, 1, false) := by kernel_rfl
theorem fl1155_1 : fieldK Tryz.prog 155 1 = some (1, 2, true) := by kernel_rfl
theorem fl46_0 : fieldK Tryz.prog 160 0 = some (0, 1, false) := by kernel_rfl
theorem fl46_1 : fieldK Tryz.prog 160 1 = some (1, 1, false) := by kernel_rfl
theorem fl1080_0 : fieldK Tryz.prog 80 0 = some (0, 1, false) := by kernel_rfl
theorem fl1080_1 : fieldK Tryz.prog 80 1 = some (1, 1, false) := by kernel_rfl
theorem fl1080_2 : fieldK Tryz.prog 80 2 = some (2, 1, false) := by kernel_rfl
theorem fl1080_3 : fieldK Tryz.prog 80 3 = some (3, 1, false) := by kernel_rfl
theorem fl1080_4 : fieldK Tryz.prog 80 4 = some (4, 1, false) := by kernel_rfl
theorem fl1080_5 : fieldK Tryz.prog 80 5 = some (5, 1, false) := by kernel_rfl
theorem fl1080_6 : fieldK Tryz.prog 80 6 = some (6, 1, false) := by kernel_rfl
theorem fl1086_0 : fieldK Tryz.prog 86 0 = some (0, 1, false) := by kernel_rfl
theorem fl1086_1 : fieldK Tryz.prog 86 1 = some (1, 1, false) := by kernel_rfl
theorem fl68_0 : fieldK Tryz.prog 88 0 = some (0, 1, false) := by kernel_rfl
theorem fl68_1 : fieldK Tryz.prog 88 1 = some (1, 1, false) := by kernel_rfl
theorem fl1090_0 : fieldK Tryz.prog 90 0 = some (0, 2, true) := by kernel_rfl
theorem fl1090_1 : fieldK Tryz.prog 90 1 = some (2, 2, true) := by kernel_rfl
theorem fl1090_2 : fieldK Tryz.prog 90 2 = some (4, 1, false) := by kernel_rfl
theorem fl1090_3 : fieldK Tryz.prog 90 3 = some (5, 1, false) := by kernel_rfl
theorem fl1093_0 : fieldK Tryz.prog 93 0 = some (0, 1, false) := by kernel_rfl
theorem fl1093_1 : fieldK Tryz.prog 93 1 = some (1, 1, false) := by kernel_rfl
theorem fl74_0 : fieldK Tryz.prog 94 0 = some (0, 1, false) := by kernel_rfl
theorem fl74_1 : fieldK Tryz.prog 94 1 = some (1, 1, false) := by kernel_rfl
theorem fl1096_0 : fieldK Tryz.prog 96 0 = some (0, 2, true) := by kernel_rfl
theorem fl1096_1 : fieldK Tryz.prog 96 1 = some (2, 2, true) := by kernel_rfl
theorem fl1096_2 : fieldK Tryz.prog 96 2 = some (4, 1, false) := by kernel_rfl
theorem fl1096_3 : fieldK Tryz.prog 96 3 = some (5, 1, false) := by kernel_rfl
theorem pl1144 : placesK Tryz.prog 144 = some [(0, 1), (1, 1)] := by kernel_rfl
theorem pl1155 : placesK Tryz.prog 155 = some [(0, 1), (1, 2)] := by kernel_rfl
theorem pl46 : placesK Tryz.prog 160 = some [(0, 1), (1, 1), (2, 1)] := by kernel_rfl
theorem pl1086 : placesK Tryz.prog 86 = some [(0, 1), (1, 1)] := by kernel_rfl
theorem pl68 : placesK Tryz.prog 88 = some [(0, 1), (1, 1)] := by kernel_rfl
theorem pl1096 : placesK Tryz.prog 96 = some [(0, 2), (2, 2), (4, 1), (5, 1)] := by kernel_rfl
theorem ty1144 : tyK Tryz.prog 144 = some (2, true) := by kernel_rfl
theorem ty1155 : tyK Tryz.prog 155 = some (3, true) := by kernel_rfl
theorem ty46 : tyK Tryz.prog 160 = some (3, true) := by kernel_rfl
theorem ty3 : tyK Tryz.prog 3 = some (1, false) := by kernel_rfl
theorem ty37 : tyK Tryz.prog 39 = some (1, false) := by kernel_rfl
theorem ty1080 : tyK Tryz.prog 80 = some (7, true) := by kernel_rfl
theorem ty1086 : tyK Tryz.prog 86 = some (2, true) := by kernel_rfl
theorem ty68 : tyK Tryz.prog 88 = some (2, true) := by kernel_rfl
theorem ty9 : tyK Tryz.prog 9 = some (1, false) := by kernel_rfl
theorem ty1090 : tyK Tryz.prog 90 = some (6, true) := by kernel_rfl
theorem ty1093 : tyK Tryz.prog 93 = some (2, true) := by kernel_rfl
theorem ty74 : tyK Tryz.prog 94 = some (2, true) := by kernel_rfl
theorem ty1096 : tyK Tryz.prog 96 = some (6, true) := by kernel_rfl
theorem z10 : zeroK Tryz.prog 10 = some [.string ByteArray.empty] := by kernel_rfl
theorem z11 : zeroK Tryz.prog 11 = some [.string ByteArray.empty] := by kernel_rfl
theorem z1144 : zeroK Tryz.prog 144 = some [.int .i64 0, .int .i64 0] := by kernel_rfl
theorem z1155 : zeroK Tryz.prog 155 = some [.string ByteArray.empty, .int .i64 0, .int .i64 0] := by kernel_rfl
theorem z46 : zeroK Tryz.prog 160 = some [.int .i64 0, .int .i64 0, .int .i64 0] := by kernel_rfl
theorem z2 : zeroK Tryz.prog 2 = some [.int .i64 0] := by kernel_rfl
theorem z3 : zeroK Tryz.prog 3 = some [.int .i64 0] := by kernel_rfl
theorem z37 : zeroK Tryz.prog 39 = some [.int .i64 0] := by kernel_rfl
theorem z4 : zeroK Tryz.prog 4 = some [.bool false] := by kernel_rfl
theorem z5 : zeroK Tryz.prog 5 = some [.int .u8 0] := by kernel_rfl
theorem z6 : zeroK Tryz.prog 6 = some [.int .u8 0] := by kernel_rfl
theorem z7 : zeroK Tryz.prog 7 = some [.int .i64 0, .int .i64 0, .bool false, .int .u8 0] := by kernel_rfl
theorem z8 : zeroK Tryz.prog 8 = some [.int .i64 0, .int .i64 0, .bool false, .int .u8 0] := by kernel_rfl
theorem z1080 : zeroK Tryz.prog 80 = some [.int .i64 0, .string ByteArray.empty, .string ByteArray.empty, .int .i64 0, .int .i64 0, .int .i64 0, .string ByteArray.empty] := by kernel_rfl
theorem z1086 : zeroK Tryz.prog 86 = some [.int .i64 0, .int .i64 0] := by kernel_rfl
theorem z68 : zeroK Tryz.prog 88 = some [.int .i64 0, .string ByteArray.empty] := by kernel_rfl
theorem z9 : zeroK Tryz.prog 9 = some [.string ByteArray.empty] := by kernel_rfl
theorem z1090 : zeroK Tryz.prog 90 = some [.int .i64 0, .int .i64 0, .int .i64 0, .string ByteArray.empty, .int .i64 0, .int .i64 0] := by kernel_rfl
theorem z1096 : zeroK Tryz.prog 96 = some [.int .i64 0, .int .i64 0, .int .i64 0, .string ByteArray.empty, .int .i64 0, .int .i64 0] := by kernel_rfl
theorem flat1144 : flatK Tryz.prog 60 144 = some [.int .i64, .int .i64] ∧ structB Tryz.prog 144 = true ∧ Tryz.prog.eqGuardType Tryz.prog.depth 144 = false := ⟨by kernel_rfl, by kernel_rfl, by kernel_rfl⟩
theorem zr1144 : (Tryz.prog.info? 144).bind (·.zero) = some (.agg #[.int .i64 0, .int .i64 0]) := by kernel_rfl
end Go.Sim
