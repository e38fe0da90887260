/-
  What is proved: facts of the types and the functions, and the structures of the program.
-/
import Derived.Test.YthhidpjikbhljaaGreatDoorVrA4
set_option linter.unusedSectionVars false
set_option linter.unusedSimpArgs false
set_option linter.unusedVariables false
set_option linter.unnecessarySimpa false
set_option linter.deprecated false
set_option maxRecDepth 10000
namespace Go.Sim
open Go.Proofs
structure S7 where
 x : Int
 y : Int
 signed : Bool
 code : Int
 deriving DecidableEq, Inhabited
abbrev S7.c (x : S7) : List G := [G.int x.x, G.int x.y, G.bool x.signed, G.lit (.int .u8 x.code)]
structure S13 where
 msg : ByteArray
 addr : Int
 deriving DecidableEq, Inhabited
abbrev S13.c (x : S13) : List G := [G.str x.msg, G.lit (.int .u64 x.addr)]
structure S1063 where
 Terminal : ByteArray
 Kind : ByteArray
 Length : Int
 Step : Int
 Most : Int
 deriving DecidableEq, Inhabited
abbrev S1063.c (x : S1063) : List G := [G.str x.Terminal, G.str x.Kind, G.int x.Length, G.int x.Step, G.int x.Most]
structure S1079 where
 Moment : Int
 Kind : ByteArray
 Terminal : ByteArray
 Seats : Int
 Size : Int
 Noise : Int
 Name : ByteArray
 deriving DecidableEq, Inhabited
abbrev S1079.c (x : S1079) : List G := [G.int x.Moment, G.str x.Kind, G.str x.Terminal, G.int x.Seats, G.int x.Size, G.int x.Noise, G.str x.Name]
structure S1026 where
 Limits : List S1063
 Movements : List S1079
 deriving DecidableEq, Inhabited
abbrev S1026.c (x : S1026) : List G := [G.sl 5 (List.map S1063.c x.Limits), G.sl 7 (List.map S1079.c x.Movements)]
structure S1122 where
 Name : ByteArray
 Size : Int
 Terminal : ByteArray
 deriving DecidableEq, Inhabited
abbrev S1122.c (x : S1122) : List G := [G.str x.Name, G.int x.Size, G.str x.Terminal]
structure S1124 where
 Name : ByteArray
 Start : Int
 End : Int
 Size : Int
 Terminal : ByteArray
 deriving DecidableEq, Inhabited
abbrev S1124.c (x : S1124) : List G := [G.str x.Name, G.int x.Start, G.int x.End, G.int x.Size, G.str x.Terminal]
structure S1049 where
 Stands : List S1122
 Turns : List S1124
 Buffer : Int
 deriving DecidableEq, Inhabited
abbrev S1049.c (x : S1049) : List G := [G.sl 3 (List.map S1122.c x.Stands), G.sl 5 (List.map S1124.c x.Turns), G.int x.Buffer]
structure S1071 where
 Limit : Int
 Moment : Int
 Seats : Int
 deriving DecidableEq, Inhabited
abbrev S1071.c (x : S1071) : List G := [G.int x.Limit, G.int x.Moment, G.int x.Seats]
structure S1085 where
 fFrom : Int
 fTo : Int
 deriving DecidableEq, Inhabited
abbrev S1085.c (x : S1085) : List G := [G.int x.fFrom, G.int x.fTo]
structure S67 where
 Year : Int
 Kind : ByteArray
 deriving DecidableEq, Inhabited
abbrev S67.c (x : S67) : List G := [G.int x.Year, G.str x.Kind]
structure S1089 where
 Night : S1085
 Season : S67
 Count : Int
 Points : Int
 deriving DecidableEq, Inhabited
abbrev S1089.c (x : S1089) : List G := [G.int x.Night.fFrom, G.int x.Night.fTo, G.int x.Season.Year, G.str x.Season.Kind, G.int x.Count, G.int x.Points]
structure S1095 where
 Night : S1085
 Season : S67
 Count : Int
 Points : Int
 deriving DecidableEq, Inhabited
abbrev S1095.c (x : S1095) : List G := [G.int x.Night.fFrom, G.int x.Night.fTo, G.int x.Season.Year, G.str x.Season.Kind, G.int x.Count, G.int x.Points]
structure S1106 where
 Moment : Int
 Size : Int
 deriving DecidableEq, Inhabited
abbrev S1106.c (x : S1106) : List G := [G.int x.Moment, G.int x.Size]
structure S1128 where
 Arrival : S1079
 Departure : S1079
 Least : Int
 Most : Int
 deriving DecidableEq, Inhabited
abbrev S1128.c (x : S1128) : List G := [G.int x.Arrival.Moment, G.str x.Arrival.Kind, G.str x.Arrival.Terminal, G.int x.Arrival.Seats, G.int x.Arrival.Size, G.int x.Arrival.Noise, G.str x.Arrival.Name, G.int x.Departure.Moment, G.str x.Departure.Kind, G.str x.Departure.Terminal, G.int x.Departure.Seats, G.int x.Departure.Size, G.int x.Departure.Noise, G.str x.Departure.Name, G.int x.Least, G.int x.Most]
structure S1143 where
 Count : Int
 Points : Int
 deriving DecidableEq, Inhabited
abbrev S1143.c (x : S1143) : List G := [G.int x.Count, G.int x.Points]
structure S1154 where
 Name : ByteArray
 Sum : S1143
 deriving DecidableEq, Inhabited
abbrev S1154.c (x : S1154) : List G := [G.str x.Name, G.int x.Sum.Count, G.int x.Sum.Points]
structure S1156 where
 Name : ByteArray
 Sum : S1143
 deriving DecidableEq, Inhabited
abbrev S1156.c (x : S1156) : List G := [G.str x.Name, G.int x.Sum.Count, G.int x.Sum.Points]
structure S45 where
 fFrom : Int
 fTo : Int
 Days : Int
 deriving DecidableEq, Inhabited
abbrev S45.c (x : S45) : List G := [G.int x.fFrom, G.int x.fTo, G.int x.Days]
structure S1190 where
 stands : List S1122
 turns : List S1124
 buffer : Int
 given : List Int
 deriving DecidableEq, Inhabited
abbrev S1190.c (x : S1190) : List G := [G.sl 3 (List.map S1122.c x.stands), G.sl 5 (List.map S1124.c x.turns), G.int x.buffer, G.sl 1 (List.map cInt x.given)]
structure S1195 where
 moments : List Int
 before : List Int
 deriving DecidableEq, Inhabited
abbrev S1195.c (x : S1195) : List G := [G.sl 1 (List.map cInt x.moments), G.sl 1 (List.map cInt x.before)]
theorem K1015 : Known Tryz.prog 15 := ⟨_, Tryz.func15, by kernel_rfl, by kernel_rfl⟩
theorem K1038 : Known Tryz.prog 38 := ⟨_, Tryz.func38, by kernel_rfl, by kernel_rfl⟩
theorem K1040 : Known Tryz.prog 40 := ⟨_, Tryz.func40, by kernel_rfl, by kernel_rfl⟩
theorem K1047 : Known Tryz.prog 47 := ⟨_, Tryz.func47, by kernel_rfl, by kernel_rfl⟩
theorem K1048 : Known Tryz.prog 48 := ⟨_, Tryz.func48, by kernel_rfl, by kernel_rfl⟩
theorem K1049 : Known Tryz.prog 49 := ⟨_, Tryz.func49, by kernel_rfl, by kernel_rfl⟩
theorem K1050 : Known Tryz.prog 50 := ⟨_, Tryz.func50, by kernel_rfl, by kernel_rfl⟩
theorem K1051 : Known Tryz.prog 51 := ⟨_, Tryz.func51, by kernel_rfl, by kernel_rfl⟩
theorem K1052 : Known Tryz.prog 52 := ⟨_, Tryz.func52, by kernel_rfl, by kernel_rfl⟩
theorem K107 : Known Tryz.prog 118 := ⟨_, Tryz.func118, by kernel_rfl, by kernel_rfl⟩
theorem K1085 : Known Tryz.prog 85 := ⟨_, Tryz.func85, by kernel_rfl, by kernel_rfl⟩
theorem K1086 : Known Tryz.prog 86 := ⟨_, Tryz.func86, by kernel_rfl, by kernel_rfl⟩
theorem K1088 : Known Tryz.prog 88 := ⟨_, Tryz.func88, by kernel_rfl, by kernel_rfl⟩
theorem K1098 : Known Tryz.prog 98 := ⟨_, Tryz.func98, by kernel_rfl, by kernel_rfl⟩
theorem K1117 : Known Tryz.prog 117 := ⟨_, Tryz.func117, by kernel_rfl, by kernel_rfl⟩
theorem K1120 : Known Tryz.prog 120 := ⟨_, Tryz.func120, by kernel_rfl, by kernel_rfl⟩
theorem K152 : Known Tryz.prog 157 := ⟨_, Tryz.func157, by kernel_rfl, by kernel_rfl⟩
theorem K154 : Known Tryz.prog 159 := ⟨_, Tryz.func159, by kernel_rfl, by kernel_rfl⟩
theorem K155 : Known Tryz.prog 158 := ⟨_, Tryz.func158, by kernel_rfl, by kernel_rfl⟩
theorem K41 : Known Tryz.prog 119 := ⟨_, Tryz.func119, by kernel_rfl, by kernel_rfl⟩
theorem K89 : Known Tryz.prog 91 := ⟨_, Tryz.func91, by kernel_rfl, by kernel_rfl⟩
theorem K90 : Known Tryz.prog 53 := ⟨_, Tryz.func53, by kernel_rfl, by kernel_rfl⟩
theorem K96 : Known Tryz.prog 41 := ⟨_, Tryz.func41, by kernel_rfl, by kernel_rfl⟩
theorem fl1086_0 : fieldK Tryz.prog 86 0 = some (0, 1, false) := by kernel_rfl
theorem fl1086_1 : fieldK Tryz.prog 86 1 = some (1, 1, false) := by kernel_rfl
theorem fl68_0 : fieldK Tryz.prog 88 0 = some (0, 1, false) := by kernel_rfl
theorem fl68_1 : fieldK Tryz.prog 88 1 = some (1, 1, false) := by kernel_rfl
theorem fl1090_0 : fieldK Tryz.prog 90 0 = some (0, 2, true) := by kernel_rfl
theorem fl1090_1 : fieldK Tryz.prog 90 1 = some (2, 2, true) := by kernel_rfl
theorem fl1090_2 : fieldK Tryz.prog 90 2 = some (4, 1, false) := by kernel_rfl
theorem fl1090_3 : fieldK Tryz.prog 90 3 = some (5, 1, false) := by kernel_rfl
theorem fl1093_0 : fieldK Tryz.prog 93 0 = some (0, 1, false) := by kernel_rfl
theorem fl1093_1 : fieldK Tryz.prog 93 1 = some (1, 1, false) := by kernel_rfl
theorem fl74_0 : fieldK Tryz.prog 94 0 = some (0, 1, false) := by kernel_rfl
theorem fl74_1 : fieldK Tryz.prog 94 1 = some (1, 1, false) := by kernel_rfl
theorem fl1096_0 : fieldK Tryz.prog 96 0 = some (0, 2, true) := by kernel_rfl
theorem fl1096_1 : fieldK Tryz.prog 96 1 = some (2, 2, true) := by kernel_rfl
theorem fl1096_2 : fieldK Tryz.prog 96 2 = some (4, 1, false) := by kernel_rfl
theorem fl1096_3 : fieldK Tryz.prog 96 3 = some (5, 1, false) := by kernel_rfl
theorem pl1096 : placesK Tryz.prog 96 = some [(0, 2), (2, 2), (4, 1), (5, 1)] := by kernel_rfl
theorem ty3 : tyK Tryz.prog 3 = some (1, false) := by kernel_rfl
theorem ty37 : tyK Tryz.prog 39 = some (1, false) := by kernel_rfl
theorem ty1086 : tyK Tryz.prog 86 = some (2, true) := by kernel_rfl
theorem ty68 : tyK Tryz.prog 88 = some (2, true) := by kernel_rfl
theorem ty9 : tyK Tryz.prog 9 = some (1, false) := by kernel_rfl
theorem ty1090 : tyK Tryz.prog 90 = some (6, true) := by kernel_rfl
theorem ty1093 : tyK Tryz.prog 93 = some (2, true) := by kernel_rfl
theorem ty74 : tyK Tryz.prog 94 = some (2, true) := by kernel_rfl
theorem ty1096 : tyK Tryz.prog 96 = some (6, true) := by kernel_rfl
theorem z10 : zeroK Tryz.prog 10 = some [.string ByteArray.empty] := by kernel_rfl
theorem z11 : zeroK Tryz.prog 11 = some [.string ByteArray.empty] := by kernel_rfl
theorem z2 : zeroK Tryz.prog 2 = some [.int .i64 0] := by kernel_rfl
theorem z3 : zeroK Tryz.prog 3 = some [.int .i64 0] := by kernel_rfl
theorem z37 : zeroK Tryz.prog 39 = some [.int .i64 0] := by kernel_rfl
theorem z4 : zeroK Tryz.prog 4 = some [.bool false] := by kernel_rfl
theorem z5 : zeroK Tryz.prog 5 = some [.int .u8 0] := by kernel_rfl
theorem z6 : zeroK Tryz.prog 6 = some [.int .u8 0] := by kernel_rfl
theorem z7 : zeroK Tryz.prog 7 = some [.int .i64 0, .int .i64 0, .bool false, .int .u8 0] := by kernel_rfl
theorem z8 : zeroK Tryz.prog 8 = some [.int .i64 0, .int .i64 0, .bool false, .int .u8 0] := by kernel_rfl
theorem z9 : zeroK Tryz.prog 9 = some [.string ByteArray.empty] := by kernel_rfl
theorem z1096 : zeroK Tryz.prog 96 = some [.int .i64 0, .int .i64 0, .int .i64 0, .string ByteArray.empty, .int .i64 0, .int .i64 0] := by kernel_rfl
end Go.Sim
