/-
  What is proved: facts of the types and the functions, and the structures of the program.
-/
import Derived.Test.YthhidpjikbhljaaGreatDoorVrA5
set_option linter.unusedSectionVars false
set_option linter.unusedSimpArgs false
set_option linter.unusedVariables false
set_option linter.unnecessarySimpa false
set_option linter.deprecated false
set_option maxRecDepth 10000
namespace Go.Sim
open Go.Proofs
structure S7 where
 x : Int
 y : Int
 signed : Bool
 code : Int
 deriving DecidableEq, Inhabited
abbrev S7.c (x : S7) : List G := [G.int x.x, G.int x.y, G.bool x.signed, G.lit (.int .u8 x.code)]
structure S13 where
 msg : ByteArray
 addr : Int
 deriving DecidableEq, Inhabited
abbrev S13.c (x : S13) : List G := [G.str x.msg, G.lit (.int .u64 x.addr)]
structure S1063 where
 Terminal : ByteArray
 Kind : ByteArray
 Length : Int
 Step : Int
 Most : Int
 deriving DecidableEq, Inhabited
abbrev S1063.c (x : S1063) : List G := [G.str x.Terminal, G.str x.Kind, G.int x.Length, G.int x.Step, G.int x.Most]
structure S1079 where
 Moment : Int
 Kind : ByteArray
 Terminal : ByteArray
 Seats : Int
 Size : Int
 Noise : Int
 Name : ByteArray
 deriving DecidableEq, Inhabited
abbrev S1079.c (x : S1079) : List G := [G.int x.Moment, G.str x.Kind, G.str x.Terminal, G.int x.Seats, G.int x.Size, G.int x.Noise, G.str x.Name]
structure S1026 where
 Limits : List S1063
 Movements : List S1079
 deriving DecidableEq, Inhabited
abbrev S1026.c (x : S1026) : List G := [G.sl 5 (List.map S1063.c x.Limits), G.sl 7 (List.map S1079.c x.Movements)]
structure S1122 where
 Name : ByteArray
 Size : Int
 Terminal : ByteArray
 deriving DecidableEq, Inhabited
abbrev S1122.c (x : S1122) : List G := [G.str x.Name, G.int x.Size, G.str x.Terminal]
structure S1124 where
 Name : ByteArray
 Start : Int
 End : Int
 Size : Int
 Terminal : ByteArray
 deriving DecidableEq, Inhabited
abbrev S1124.c (x : S1124) : List G := [G.str x.Name, G.int x.Start, G.int x.End, G.int x.Size, G.str x.Terminal]
structure S1049 where
 Stands : List S1122
 Turns : List S1124
 Buffer : Int
 deriving DecidableEq, Inhabited
abbrev S1049.c (x : S1049) : List G := [G.sl 3 (List.map S1122.c x.Stands), G.sl 5 (List.map S1124.c x.Turns), G.int x.Buffer]
structure S1071 where
 Limit : Int
 Moment : Int
 Seats : Int
 deriving DecidableEq, Inhabited
abbrev S1071.c (x : S1071) : List G := [G.int x.Limit, G.int x.Moment, G.int x.Seats]
structure S1085 where
 fFrom : Int
 fTo : Int
 deriving DecidableEq, Inhabited
abbrev S1085.c (x : S1085) : List G := [G.int x.fFrom, G.int x.fTo]
structure S67 where
 Year : Int
 Kind : ByteArray
 deriving DecidableEq, Inhabited
abbrev S67.c (x : S67) : List G := [G.int x.Year, G.str x.Kind]
structure S1089 where
 Night : S1085
 Season : S67
 Count : Int
 Points : Int
 deriving DecidableEq, Inhabited
abbrev S1089.c (x : S1089) : List G := [G.int x.Night.fFrom, G.int x.Night.fTo, G.int x.Season.Year, G.str x.Season.Kind, G.int x.Count, G.int x.Points]
structure S1095 where
 Night : S1085
 Season : S67
 Count : Int
 Points : Int
 deriving DecidableEq, Inhabited
abbrev S1095.c (x : S1095) : List G := [G.int x.Night.fFrom, G.int x.Night.fTo, G.int x.Season.Year, G.str x.Season.Kind, G.int x.Count, G.int x.Points]
structure S1106 where
 Moment : Int
 Size : Int
 deriving DecidableEq, Inhabited
abbrev S1106.c (x : S1106) : List G := [G.int x.Moment, G.int x.Size]
structure S1128 where
 Arrival : S1079
 Departure : S1079
 Least : Int
 Most : Int
 deriving DecidableEq, Inhabited
abbrev S1128.c (x : S1128) : List G := [G.int x.Arrival.Moment, G.str x.Arrival.Kind, G.str x.Arrival.Terminal, G.int x.Arrival.Seats, G.int x.Arrival.Size, G.int x.Arrival.Noise, G.str x.Arrival.Name, G.int x.Departure.Moment, G.str x.Departure.Kind, G.str x.Departure.Terminal, G.int x.Departure.Seats, G.int x.Departure.Size, G.int x.Departure.Noise, G.str x.Departure.Name, G.int x.Least, G.int x.Most]
structure S1143 where
 Count : Int
 Points : Int
 deriving DecidableEq, Inhabited
abbrev S1143.c (x : S1143) : List G := [G.int x.Count, G.int x.Points]
structure S1154 where
 Name : ByteArray
 Sum : S1143
 deriving DecidableEq, Inhabited
abbrev S1154.c (x : S1154) : List G := [G.str x.Name, G.int x.Sum.Count, G.int x.Sum.Points]
structure S1156 where
 Name : ByteArray
 Sum : S1143
 deriving DecidableEq, Inhabited
abbrev S1156.c (x : S1156) : List G := [G.str x.Name, G.int x.Sum.Count, G.int x.Sum.Points]
structure S45 where
 fFrom : Int
 fTo : Int
 Days : Int
 deriving DecidableEq, Inhabited
abbrev S45.c (x : S45) : List G := [G.int x.fFrom, G.int x.fTo, G.int x.Days]
structure S1190 where
 stands : List S1122
 turns : List S1124
 buffer : Int
 given : List Int
 deriving DecidableEq, Inhabited
abbrev S1190.c (x : S1190) : List G := [G.sl 3 (List.map S1122.c x.stands), G.sl 5 (List.map S1124.c x.turns), G.int x.buffer, G.sl 1 (List.map cInt x.given)]
structure S1195 where
 moments : List Int
 before : List Int
 deriving DecidableEq, Inhabited
abbrev S1195.c (x : S1195) : List G := [G.sl 1 (List.map cInt x.moments), G.sl 1 (List.map cInt x.before)]
theorem K1015 : Known Tryz.prog 15 := ⟨_, Tryz.func15, by kernel_rfl, by kernel_rfl⟩
theorem K1020 : Known Tryz.prog 20 := ⟨_, Tryz.func20, by kernel_rfl, by kernel_rfl⟩
theorem K1027 : Known Tryz.prog 27 := ⟨_, Tryz.func27, by kernel_rfl, by kernel_rfl⟩
theorem K1028 : Known Tryz.prog 28 := ⟨_, Tryz.func28, by kernel_rfl, by kernel_rfl⟩
theorem K1029 : Known Tryz.prog 29 := ⟨_, Tryz.func29, by kernel_rfl, by kernel_rfl⟩
theorem K1039 : Known Tryz.prog 39 := ⟨_, Tryz.func39, by kernel_rfl, by kernel_rfl⟩
theorem K1043 : Known Tryz.prog 43 := ⟨_, Tryz.func43, by kernel_rfl, by kernel_rfl⟩
theorem K1085 : Known Tryz.prog 85 := ⟨_, Tryz.func85, by kernel_rfl, by kernel_rfl⟩
theorem K1086 : Known Tryz.prog 86 := ⟨_, Tryz.func86, by kernel_rfl, by kernel_rfl⟩
theorem K1088 : Known Tryz.prog 88 := ⟨_, Tryz.func88, by kernel_rfl, by kernel_rfl⟩
theorem K1089 : Known Tryz.prog 89 := ⟨_, Tryz.func89, by kernel_rfl, by kernel_rfl⟩
theorem K1092 : Known Tryz.prog 92 := ⟨_, Tryz.func92, by kernel_rfl, by kernel_rfl⟩
theorem K1093 : Known Tryz.prog 93 := ⟨_, Tryz.func93, by kernel_rfl, by kernel_rfl⟩
theorem K1098 : Known Tryz.prog 98 := ⟨_, Tryz.func98, by kernel_rfl, by kernel_rfl⟩
theorem K1099 : Known Tryz.prog 99 := ⟨_, Tryz.func99, by kernel_rfl, by kernel_rfl⟩
theorem K1100 : Known Tryz.prog 100 := ⟨_, Tryz.func100, by kernel_rfl, by kernel_rfl⟩
theorem K1101 : Known Tryz.prog 101 := ⟨_, Tryz.func101, by kernel_rfl, by kernel_rfl⟩
theorem K1102 : Known Tryz.prog 102 := ⟨_, Tryz.func102, by kernel_rfl, by kernel_rfl⟩
theorem K1111 : Known Tryz.prog 111 := ⟨_, Tryz.func111, by kernel_rfl, by kernel_rfl⟩
theorem K1112 : Known Tryz.prog 112 := ⟨_, Tryz.func112, by kernel_rfl, by kernel_rfl⟩
theorem K1114 : Known Tryz.prog 114 := ⟨_, Tryz.func114, by kernel_rfl, by kernel_rfl⟩
theorem K1116 : Known Tryz.prog 116 := ⟨_, Tryz.func116, by kernel_rfl, by kernel_rfl⟩
theorem K1149 : Known Tryz.prog 149 := ⟨_, Tryz.func149, by kernel_rfl, by kernel_rfl⟩
theorem K1150 : Known Tryz.prog 150 := ⟨_, Tryz.func150, by kernel_rfl, by kernel_rfl⟩
theorem K1151 : Known Tryz.prog 151 := ⟨_, Tryz.func151, by kernel_rfl, by kernel_rfl⟩
theorem K1152 : Known Tryz.prog 152 := ⟨_, Tryz.func152, by kernel_rfl, by kernel_rfl⟩
theorem K1153 : Known Tryz.prog 153 := ⟨_, Tryz.func153, by kernel_rfl, by kernel_rfl⟩
theorem K1155 : Known Tryz.prog 155 := ⟨_, Tryz.func155, by kernel_rfl, by kernel_rfl⟩
theorem K1156 : Known Tryz.prog 156 := ⟨_, Tryz.func156, by kernel_rfl, by kernel_rfl⟩
theorem K1172 : Known Tryz.prog 172 := ⟨_, Tryz.func172, by kernel_rfl, by kernel_rfl⟩
theorem K1173 : Known Tryz.prog 173 := ⟨_, Tryz.func173, by kernel_rfl, by kernel_rfl⟩
theorem K1175 : Known Tryz.prog 175 := ⟨_, Tryz.func175, by kernel_rfl, by kernel_rfl⟩
theorem K1192 : Known Tryz.prog 192 := ⟨_, Tryz.func192, by kernel_rfl, by kernel_rfl⟩
theorem K1194 : Known Tryz.prog 194 := ⟨_, Tryz.func194, by kernel_rfl, by kernel_rfl⟩
theorem K1195 : Known Tryz.prog 195 := ⟨_, Tryz.func195, by kernel_rfl, by kernel_rfl⟩
theorem K147 : Known Tryz.prog 87 := ⟨_, Tryz.func87, by kernel_rfl, by kernel_rfl⟩
theorem K148 : Known Tryz.prog 138 := ⟨_, Tryz.func138, by kernel_rfl, by kernel_rfl⟩
theorem K167 : Known Tryz.prog 154 := ⟨_, Tryz.func154, by kernel_rfl, by kernel_rfl⟩
theorem K202 : Known Tryz.prog 174 := ⟨_, Tryz.func174, by kernel_rfl, by kernel_rfl⟩
theorem K88 : Known Tryz.prog 103 := ⟨_, Tryz.func103, by kernel_rfl, by kernel_rfl⟩
theorem K89 : Known Tryz.prog 91 := ⟨_, Tryz.func91, by kernel_rfl, by kernel_rfl⟩
theorem K90 : Known Tryz.prog 53 := ⟨_, Tryz.func53, by kernel_rfl, by kernel_rfl⟩
theorem K91 : Known Tryz.prog 90 := ⟨_, Tryz.func90, by kernel_rfl, by kernel_rfl⟩
theorem K96 : Known Tryz.prog 41 := ⟨_, Tryz.func41, by kernel_rfl, by kernel_rfl⟩
theorem app1025 : appK Tryz.prog 25 = some (80, 7, 80) := by kernel_rfl
theorem app82 : appK Tryz.prog 51 = some (3, 1, 8) := by kernel_rfl
theorem fl1196_0 : fieldK Tryz.prog 196 0 = some (0, 1, false) := by kernel_rfl
theorem fl1196_1 : fieldK Tryz.prog 196 1 = some (1, 1, false) := by kernel_rfl
theorem fl1064_0 : fieldK Tryz.prog 64 0 = some (0, 1, false) := by kernel_rfl
theorem fl1064_1 : fieldK Tryz.prog 64 1 = some (1, 1, false) := by kernel_rfl
theorem fl1064_2 : fieldK Tryz.prog 64 2 = some (2, 1, false) := by kernel_rfl
theorem fl1064_3 : fieldK Tryz.prog 64 3 = some (3, 1, false) := by kernel_rfl
theorem fl1064_4 : fieldK Tryz.prog 64 4 = some (4, 1, false) := by kernel_rfl
theorem fl1080_0 : fieldK Tryz.prog 80 0 = some (0, 1, false) := by kernel_rfl
theorem fl1080_1 : fieldK Tryz.prog 80 1 = some (1, 1, false) := by kernel_rfl
theorem fl1080_2 : fieldK Tryz.prog 80 2 = some (2, 1, false) := by kernel_rfl
theorem fl1080_3 : fieldK Tryz.prog 80 3 = some (3, 1, false) := by kernel_rfl
theorem fl1080_4 : fieldK Tryz.prog 80 4 = some (4, 1, false) := by kernel_rfl
theorem fl1080_5 : fieldK Tryz.prog 80 5 = some (5, 1, false) := by kernel_rfl
theorem fl1080_6 : fieldK Tryz.prog 80 6 = some (6, 1, false) := by kernel_rfl
theorem pl1196 : placesK Tryz.prog 196 = some [(0, 1), (1, 1)] := by kernel_rfl
theorem pl1064 : placesK Tryz.prog 64 = some [(0, 1), (1, 1), (2, 1), (3, 1), (4, 1)] := by kernel_rfl
theorem pl1072 : placesK Tryz.prog 72 = some [(0, 1), (1, 1), (2, 1)] := by kernel_rfl
theorem ty1196 : tyK Tryz.prog 196 = some (2, true) := by kernel_rfl
theorem ty3 : tyK Tryz.prog 3 = some (1, false) := by kernel_rfl
theorem ty37 : tyK Tryz.prog 39 = some (1, false) := by kernel_rfl
theorem ty82 : tyK Tryz.prog 51 = some (1, false) := by kernel_rfl
theorem ty1064 : tyK Tryz.prog 64 = some (5, true) := by kernel_rfl
theorem ty1072 : tyK Tryz.prog 72 = some (3, true) := by kernel_rfl
theorem ty1080 : tyK Tryz.prog 80 = some (7, true) := by kernel_rfl
theorem ty9 : tyK Tryz.prog 9 = some (1, false) := by kernel_rfl
theorem z10 : zeroK Tryz.prog 10 = some [.string ByteArray.empty] := by kernel_rfl
theorem z239 : zeroK Tryz.prog 103 = some [.int .i64 0, .int .i64 0, .int .i64 0] := by kernel_rfl
theorem z11 : zeroK Tryz.prog 11 = some [.string ByteArray.empty] := by kernel_rfl
theorem z1196 : zeroK Tryz.prog 196 = some [.slice none 0 0, .slice none 0 0] := by kernel_rfl
theorem z2 : zeroK Tryz.prog 2 = some [.int .i64 0] := by kernel_rfl
theorem z3 : zeroK Tryz.prog 3 = some [.int .i64 0] := by kernel_rfl
theorem z37 : zeroK Tryz.prog 39 = some [.int .i64 0] := by kernel_rfl
theorem z4 : zeroK Tryz.prog 4 = some [.bool false] := by kernel_rfl
theorem z5 : zeroK Tryz.prog 5 = some [.int .u8 0] := by kernel_rfl
theorem z6 : zeroK Tryz.prog 6 = some [.int .u8 0] := by kernel_rfl
theorem z1064 : zeroK Tryz.prog 64 = some [.string ByteArray.empty, .string ByteArray.empty, .int .i64 0, .int .i64 0, .int .i64 0] := by kernel_rfl
theorem z7 : zeroK Tryz.prog 7 = some [.int .i64 0, .int .i64 0, .bool false, .int .u8 0] := by kernel_rfl
theorem z1072 : zeroK Tryz.prog 72 = some [.int .i64 0, .int .i64 0, .int .i64 0] := by kernel_rfl
theorem z8 : zeroK Tryz.prog 8 = some [.int .i64 0, .int .i64 0, .bool false, .int .u8 0] := by kernel_rfl
theorem z1080 : zeroK Tryz.prog 80 = some [.int .i64 0, .string ByteArray.empty, .string ByteArray.empty, .int .i64 0, .int .i64 0, .int .i64 0, .string ByteArray.empty] := by kernel_rfl
theorem z9 : zeroK Tryz.prog 9 = some [.string ByteArray.empty] := by kernel_rfl
end Go.Sim
