/-
  What is proved: facts of the types and the functions, and the structures of the program.
-/
import Derived.Test.YtkeegnagpekgmaaDoorVrA5
set_option linter.unusedSectionVars false
set_option linter.unusedSimpArgs false
set_option linter.unusedVariables false
set_option linter.unnecessarySimpa false
set_option linter.deprecated false
set_option maxRecDepth 10000
namespace Go.Sim
open Go.Proofs
structure S7 where
 x : Int
 y : Int
 signed : Bool
 code : Int
 deriving DecidableEq, Inhabited
abbrev S7.c (x : S7) : List G := [G.int x.x, G.int x.y, G.bool x.signed, G.lit (.int .u8 x.code)]
structure S13 where
 msg : ByteArray
 addr : Int
 deriving DecidableEq, Inhabited
abbrev S13.c (x : S13) : List G := [G.str x.msg, G.lit (.int .u64 x.addr)]
structure S45 where
 fFrom : Int
 fTo : Int
 Days : Int
 deriving DecidableEq, Inhabited
abbrev S45.c (x : S45) : List G := [G.int x.fFrom, G.int x.fTo, G.int x.Days]
structure S1085 where
 fFrom : Int
 fTo : Int
 deriving DecidableEq, Inhabited
abbrev S1085.c (x : S1085) : List G := [G.int x.fFrom, G.int x.fTo]
structure S67 where
 Year : Int
 Kind : ByteArray
 deriving DecidableEq, Inhabited
abbrev S67.c (x : S67) : List G := [G.int x.Year, G.str x.Kind]
structure S1089 where
 Night : S1085
 Season : S67
 Count : Int
 Points : Int
 deriving DecidableEq, Inhabited
abbrev S1089.c (x : S1089) : List G := [G.int x.Night.fFrom, G.int x.Night.fTo, G.int x.Season.Year, G.str x.Season.Kind, G.int x.Count, G.int x.Points]
structure S1095 where
 Night : S1085
 Season : S67
 Count : Int
 Points : Int
 deriving DecidableEq, Inhabited
abbrev S1095.c (x : S1095) : List G := [G.int x.Night.fFrom, G.int x.Night.fTo, G.int x.Season.Year, G.str x.Season.Kind, G.int x.Count, G.int x.Points]
structure S115 where
 Name : ByteArray
 Carrier : ByteArray
 Kind : ByteArray
 Terminal : ByteArray
 Partner : ByteArray
 Link : ByteArray
 Period : S45
 Minute : Int
 Seats : Int
 Size : Int
 Noise : Int
 deriving DecidableEq, Inhabited
abbrev S115.c (x : S115) : List G := [G.str x.Name, G.str x.Carrier, G.str x.Kind, G.str x.Terminal, G.str x.Partner, G.str x.Link, G.int x.Period.fFrom, G.int x.Period.fTo, G.int x.Period.Days, G.int x.Minute, G.int x.Seats, G.int x.Size, G.int x.Noise]
structure S1143 where
 Count : Int
 Points : Int
 deriving DecidableEq, Inhabited
abbrev S1143.c (x : S1143) : List G := [G.int x.Count, G.int x.Points]
structure S1124 where
 Name : ByteArray
 Start : Int
 End : Int
 Size : Int
 Terminal : ByteArray
 deriving DecidableEq, Inhabited
abbrev S1124.c (x : S1124) : List G := [G.str x.Name, G.int x.Start, G.int x.End, G.int x.Size, G.str x.Terminal]
structure S1079 where
 Moment : Int
 Kind : ByteArray
 Terminal : ByteArray
 Seats : Int
 Size : Int
 Noise : Int
 Name : ByteArray
 deriving DecidableEq, Inhabited
abbrev S1079.c (x : S1079) : List G := [G.int x.Moment, G.str x.Kind, G.str x.Terminal, G.int x.Seats, G.int x.Size, G.int x.Noise, G.str x.Name]
theorem K102 : Known Tryd.prog 34 := ⟨_, Tryd.func34, by kernel_rfl, by kernel_rfl⟩
theorem K1027 : Known Tryd.prog 31 := ⟨_, Tryd.func31, by kernel_rfl, by kernel_rfl⟩
theorem K1028 : Known Tryd.prog 9 := ⟨_, Tryd.func9, by kernel_rfl, by kernel_rfl⟩
theorem K1047 : Known Tryd.prog 30 := ⟨_, Tryd.func30, by kernel_rfl, by kernel_rfl⟩
theorem K1048 : Known Tryd.prog 5 := ⟨_, Tryd.func5, by kernel_rfl, by kernel_rfl⟩
theorem K1051 : Known Tryd.prog 16 := ⟨_, Tryd.func16, by kernel_rfl, by kernel_rfl⟩
theorem K107 : Known Tryd.prog 22 := ⟨_, Tryd.func22, by kernel_rfl, by kernel_rfl⟩
theorem K1071 : Known Tryd.prog 10 := ⟨_, Tryd.func10, by kernel_rfl, by kernel_rfl⟩
theorem K1085 : Known Tryd.prog 29 := ⟨_, Tryd.func29, by kernel_rfl, by kernel_rfl⟩
theorem K1086 : Known Tryd.prog 40 := ⟨_, Tryd.func40, by kernel_rfl, by kernel_rfl⟩
theorem K1088 : Known Tryd.prog 41 := ⟨_, Tryd.func41, by kernel_rfl, by kernel_rfl⟩
theorem K1089 : Known Tryd.prog 61 := ⟨_, Tryd.func61, by kernel_rfl, by kernel_rfl⟩
theorem K109 : Known Tryd.prog 13 := ⟨_, Tryd.func13, by kernel_rfl, by kernel_rfl⟩
theorem K1092 : Known Tryd.prog 27 := ⟨_, Tryd.func27, by kernel_rfl, by kernel_rfl⟩
theorem K1093 : Known Tryd.prog 26 := ⟨_, Tryd.func26, by kernel_rfl, by kernel_rfl⟩
theorem K1098 : Known Tryd.prog 60 := ⟨_, Tryd.func60, by kernel_rfl, by kernel_rfl⟩
theorem K1099 : Known Tryd.prog 58 := ⟨_, Tryd.func58, by kernel_rfl, by kernel_rfl⟩
theorem K1100 : Known Tryd.prog 59 := ⟨_, Tryd.func59, by kernel_rfl, by kernel_rfl⟩
theorem K1117 : Known Tryd.prog 57 := ⟨_, Tryd.func57, by kernel_rfl, by kernel_rfl⟩
theorem K1120 : Known Tryd.prog 62 := ⟨_, Tryd.func62, by kernel_rfl, by kernel_rfl⟩
theorem K1132 : Known Tryd.prog 32 := ⟨_, Tryd.func32, by kernel_rfl, by kernel_rfl⟩
theorem K135 : Known Tryd.prog 35 := ⟨_, Tryd.func35, by kernel_rfl, by kernel_rfl⟩
theorem K136 : Known Tryd.prog 36 := ⟨_, Tryd.func36, by kernel_rfl, by kernel_rfl⟩
theorem K138 : Known Tryd.prog 23 := ⟨_, Tryd.func23, by kernel_rfl, by kernel_rfl⟩
theorem K139 : Known Tryd.prog 24 := ⟨_, Tryd.func24, by kernel_rfl, by kernel_rfl⟩
theorem K147 : Known Tryd.prog 49 := ⟨_, Tryd.func49, by kernel_rfl, by kernel_rfl⟩
theorem K152 : Known Tryd.prog 33 := ⟨_, Tryd.func33, by kernel_rfl, by kernel_rfl⟩
theorem K153 : Known Tryd.prog 63 := ⟨_, Tryd.func63, by kernel_rfl, by kernel_rfl⟩
theorem K154 : Known Tryd.prog 55 := ⟨_, Tryd.func55, by kernel_rfl, by kernel_rfl⟩
theorem K155 : Known Tryd.prog 39 := ⟨_, Tryd.func39, by kernel_rfl, by kernel_rfl⟩
theorem K187 : Known Tryd.prog 65 := ⟨_, Tryd.func65, by kernel_rfl, by kernel_rfl⟩
theorem K188 : Known Tryd.prog 66 := ⟨_, Tryd.func66, by kernel_rfl, by kernel_rfl⟩
theorem K189 : Known Tryd.prog 56 := ⟨_, Tryd.func56, by kernel_rfl, by kernel_rfl⟩
theorem K2006 : Known Tryd.prog 6 := ⟨_, Tryd.func6, by kernel_rfl, by kernel_rfl⟩
theorem K2007 : Known Tryd.prog 7 := ⟨_, Tryd.func7, by kernel_rfl, by kernel_rfl⟩
theorem K2011 : Known Tryd.prog 11 := ⟨_, Tryd.func11, by kernel_rfl, by kernel_rfl⟩
theorem K2012 : Known Tryd.prog 12 := ⟨_, Tryd.func12, by kernel_rfl, by kernel_rfl⟩
theorem K2020 : Known Tryd.prog 20 := ⟨_, Tryd.func20, by kernel_rfl, by kernel_rfl⟩
theorem K2021 : Known Tryd.prog 21 := ⟨_, Tryd.func21, by kernel_rfl, by kernel_rfl⟩
theorem K2038 : Known Tryd.prog 38 := ⟨_, Tryd.func38, by kernel_rfl, by kernel_rfl⟩
theorem K2047 : Known Tryd.prog 47 := ⟨_, Tryd.func47, by kernel_rfl, by kernel_rfl⟩
theorem K2048 : Known Tryd.prog 48 := ⟨_, Tryd.func48, by kernel_rfl, by kernel_rfl⟩
theorem K2050 : Known Tryd.prog 50 := ⟨_, Tryd.func50, by kernel_rfl, by kernel_rfl⟩
theorem K2051 : Known Tryd.prog 51 := ⟨_, Tryd.func51, by kernel_rfl, by kernel_rfl⟩
theorem K2052 : Known Tryd.prog 52 := ⟨_, Tryd.func52, by kernel_rfl, by kernel_rfl⟩
theorem K2053 : Known Tryd.prog 53 := ⟨_, Tryd.func53, by kernel_rfl, by kernel_rfl⟩
theorem K221 : Known Tryd.prog 75 := ⟨_, Tryd.func75, by kernel_rfl, by kernel_rfl⟩
theorem K222 : Known Tryd.prog 79 := ⟨_, Tryd.func79, by kernel_rfl, by kernel_rfl⟩
theorem K223 : Known Tryd.prog 80 := ⟨_, Tryd.func80, by kernel_rfl, by kernel_rfl⟩
theorem K248 : Known Tryd.prog 92 := ⟨_, Tryd.func92, by kernel_rfl, by kernel_rfl⟩
theorem K40 : Known Tryd.prog 4 := ⟨_, Tryd.func4, by kernel_rfl, by kernel_rfl⟩
theorem K41 : Known Tryd.prog 17 := ⟨_, Tryd.func17, by kernel_rfl, by kernel_rfl⟩
theorem K69 : Known Tryd.prog 54 := ⟨_, Tryd.func54, by kernel_rfl, by kernel_rfl⟩
theorem K70 : Known Tryd.prog 8 := ⟨_, Tryd.func8, by kernel_rfl, by kernel_rfl⟩
theorem K89 : Known Tryd.prog 15 := ⟨_, Tryd.func15, by kernel_rfl, by kernel_rfl⟩
theorem K90 : Known Tryd.prog 14 := ⟨_, Tryd.func14, by kernel_rfl, by kernel_rfl⟩
theorem K91 : Known Tryd.prog 28 := ⟨_, Tryd.func28, by kernel_rfl, by kernel_rfl⟩
theorem K96 : Known Tryd.prog 25 := ⟨_, Tryd.func25, by kernel_rfl, by kernel_rfl⟩
theorem app1025 : appK Tryd.prog 39 = some (67, 7, 80) := by kernel_rfl
theorem fl46_0 : fieldK Tryd.prog 23 0 = some (0, 1, false) := by kernel_rfl
theorem fl46_1 : fieldK Tryd.prog 23 1 = some (1, 1, false) := by kernel_rfl
theorem fl46_2 : fieldK Tryd.prog 23 2 = some (2, 1, false) := by kernel_rfl
theorem fl1086_0 : fieldK Tryd.prog 25 0 = some (0, 1, false) := by kernel_rfl
theorem fl1086_1 : fieldK Tryd.prog 25 1 = some (1, 1, false) := by kernel_rfl
theorem fl68_0 : fieldK Tryd.prog 27 0 = some (0, 1, false) := by kernel_rfl
theorem fl68_1 : fieldK Tryd.prog 27 1 = some (1, 1, false) := by kernel_rfl
theorem fl1090_0 : fieldK Tryd.prog 29 0 = some (0, 2, true) := by kernel_rfl
theorem fl1090_1 : fieldK Tryd.prog 29 1 = some (2, 2, true) := by kernel_rfl
theorem fl1090_2 : fieldK Tryd.prog 29 2 = some (4, 1, false) := by kernel_rfl
theorem fl1090_3 : fieldK Tryd.prog 29 3 = some (5, 1, false) := by kernel_rfl
theorem fl1093_0 : fieldK Tryd.prog 32 0 = some (0, 1, false) := by kernel_rfl
theorem fl1093_1 : fieldK Tryd.prog 32 1 = some (1, 1, false) := by kernel_rfl
theorem fl74_0 : fieldK Tryd.prog 33 0 = some (0, 1, false) := by kernel_rfl
theorem fl74_1 : fieldK Tryd.prog 33 1 = some (1, 1, false) := by kernel_rfl
theorem fl1096_0 : fieldK Tryd.prog 35 0 = some (0, 2, true) := by kernel_rfl
theorem fl1096_1 : fieldK Tryd.prog 35 1 = some (2, 2, true) := by kernel_rfl
theorem fl1096_2 : fieldK Tryd.prog 35 2 = some (4, 1, false) := by kernel_rfl
theorem fl1096_3 : fieldK Tryd.prog 35 3 = some (5, 1, false) := by kernel_rfl
theorem fl116_0 : fieldK Tryd.prog 44 0 = some (0, 1, false) := by kernel_rfl
theorem fl116_10 : fieldK Tryd.prog 44 10 = some (12, 1, false) := by kernel_rfl
theorem fl116_2 : fieldK Tryd.prog 44 2 = some (2, 1, false) := by kernel_rfl
theorem fl116_3 : fieldK Tryd.prog 44 3 = some (3, 1, false) := by kernel_rfl
theorem fl116_6 : fieldK Tryd.prog 44 6 = some (6, 3, true) := by kernel_rfl
theorem fl116_7 : fieldK Tryd.prog 44 7 = some (9, 1, false) := by kernel_rfl
theorem fl116_8 : fieldK Tryd.prog 44 8 = some (10, 1, false) := by kernel_rfl
theorem fl116_9 : fieldK Tryd.prog 44 9 = some (11, 1, false) := by kernel_rfl
theorem fl1144_0 : fieldK Tryd.prog 49 0 = some (0, 1, false) := by kernel_rfl
theorem fl1144_1 : fieldK Tryd.prog 49 1 = some (1, 1, false) := by kernel_rfl
theorem fl1080_0 : fieldK Tryd.prog 67 0 = some (0, 1, false) := by kernel_rfl
theorem fl1080_1 : fieldK Tryd.prog 67 1 = some (1, 1, false) := by kernel_rfl
theorem fl1080_2 : fieldK Tryd.prog 67 2 = some (2, 1, false) := by kernel_rfl
theorem fl1080_3 : fieldK Tryd.prog 67 3 = some (3, 1, false) := by kernel_rfl
theorem fl1080_4 : fieldK Tryd.prog 67 4 = some (4, 1, false) := by kernel_rfl
theorem fl1080_5 : fieldK Tryd.prog 67 5 = some (5, 1, false) := by kernel_rfl
theorem fl1080_6 : fieldK Tryd.prog 67 6 = some (6, 1, false) := by kernel_rfl
theorem pl46 : placesK Tryd.prog 23 = some [(0, 1), (1, 1), (2, 1)] := by kernel_rfl
theorem pl68 : placesK Tryd.prog 27 = some [(0, 1), (1, 1)] := by kernel_rfl
theorem pl1096 : placesK Tryd.prog 35 = some [(0, 2), (2, 2), (4, 1), (5, 1)] := by kernel_rfl
theorem pl116 : placesK Tryd.prog 44 = some [(0, 1), (1, 1), (2, 1), (3, 1), (4, 1), (5, 1), (6, 3), (9, 1), (10, 1), (11, 1), (12, 1)] := by kernel_rfl
theorem pl1144 : placesK Tryd.prog 49 = some [(0, 1), (1, 1)] := by kernel_rfl
theorem pl1080 : placesK Tryd.prog 67 = some [(0, 1), (1, 1), (2, 1), (3, 1), (4, 1), (5, 1), (6, 1)] := by kernel_rfl
theorem ty46 : tyK Tryd.prog 23 = some (3, true) := by kernel_rfl
theorem ty1086 : tyK Tryd.prog 25 = some (2, true) := by kernel_rfl
theorem ty68 : tyK Tryd.prog 27 = some (2, true) := by kernel_rfl
theorem ty1090 : tyK Tryd.prog 29 = some (6, true) := by kernel_rfl
theorem ty3 : tyK Tryd.prog 3 = some (1, false) := by kernel_rfl
theorem ty2030 : tyK Tryd.prog 30 = some (1, false) := by kernel_rfl
theorem ty1093 : tyK Tryd.prog 32 = some (2, true) := by kernel_rfl
theorem ty74 : tyK Tryd.prog 33 = some (2, true) := by kernel_rfl
theorem ty1096 : tyK Tryd.prog 35 = some (6, true) := by kernel_rfl
theorem ty37 : tyK Tryd.prog 40 = some (1, false) := by kernel_rfl
theorem ty116 : tyK Tryd.prog 44 = some (13, true) := by kernel_rfl
theorem ty1144 : tyK Tryd.prog 49 = some (2, true) := by kernel_rfl
theorem ty1080 : tyK Tryd.prog 67 = some (7, true) := by kernel_rfl
theorem ty9 : tyK Tryd.prog 9 = some (1, false) := by kernel_rfl
theorem z10 : zeroK Tryd.prog 10 = some [.string ByteArray.empty] := by kernel_rfl
theorem z11 : zeroK Tryd.prog 11 = some [.string ByteArray.empty] := by kernel_rfl
theorem z2 : zeroK Tryd.prog 2 = some [.int .i64 0] := by kernel_rfl
theorem z46 : zeroK Tryd.prog 23 = some [.int .i64 0, .int .i64 0, .int .i64 0] := by kernel_rfl
theorem z68 : zeroK Tryd.prog 27 = some [.int .i64 0, .string ByteArray.empty] := by kernel_rfl
theorem z3 : zeroK Tryd.prog 3 = some [.int .i64 0] := by kernel_rfl
theorem z1096 : zeroK Tryd.prog 35 = some [.int .i64 0, .int .i64 0, .int .i64 0, .string ByteArray.empty, .int .i64 0, .int .i64 0] := by kernel_rfl
theorem z4 : zeroK Tryd.prog 4 = some [.bool false] := by kernel_rfl
theorem z37 : zeroK Tryd.prog 40 = some [.int .i64 0] := by kernel_rfl
theorem z116 : zeroK Tryd.prog 44 = some [.string ByteArray.empty, .string ByteArray.empty, .string ByteArray.empty, .string ByteArray.empty, .string ByteArray.empty, .string ByteArray.empty, .int .i64 0, .int .i64 0, .int .i64 0, .int .i64 0, .int .i64 0, .int .i64 0, .int .i64 0] := by kernel_rfl
theorem z1144 : zeroK Tryd.prog 49 = some [.int .i64 0, .int .i64 0] := by kernel_rfl
theorem z5 : zeroK Tryd.prog 5 = some [.int .u8 0] := by kernel_rfl
theorem z6 : zeroK Tryd.prog 6 = some [.int .u8 0] := by kernel_rfl
theorem z1080 : zeroK Tryd.prog 67 = some [.int .i64 0, .string ByteArray.empty, .string ByteArray.empty, .int .i64 0, .int .i64 0, .int .i64 0, .string ByteArray.empty] := by kernel_rfl
theorem z7 : zeroK Tryd.prog 7 = some [.int .i64 0, .int .i64 0, .bool false, .int .u8 0] := by kernel_rfl
theorem z8 : zeroK Tryd.prog 8 = some [.int .i64 0, .int .i64 0, .bool false, .int .u8 0] := by kernel_rfl
theorem z9 : zeroK Tryd.prog 9 = some [.string ByteArray.empty] := by kernel_rfl
theorem flat1144 : flatK Tryd.prog 60 49 = some [.int .i64, .int .i64] ∧ structB Tryd.prog 49 = true ∧ Tryd.prog.eqGuardType Tryd.prog.depth 49 = false := ⟨by kernel_rfl, by kernel_rfl, by kernel_rfl⟩
theorem zr1144 : (Tryd.prog.info? 49).bind (·.zero) = some (.agg #[.int .i64 0, .int .i64 0]) := by kernel_rfl
end Go.Sim
