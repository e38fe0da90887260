/-
  What is proved: facts of the types and the functions, and the structures of the program.
-/
import Derived.Test.YtlgimmdbgbofgaaGreatDoorVrA3
set_option linter.unusedSectionVars false
set_option linter.unusedSimpArgs false
set_option linter.unusedVariables false
set_option linter.unnecessarySimpa false
set_option linter.deprecated false
set_option maxRecDepth 10000
namespace Go.Sim
open Go.Proofs
structure S7 where
 x : Int
 y : Int
 signed : Bool
 code : Int
 deriving DecidableEq, Inhabited
abbrev S7.c (x : S7) : List G := [G.int x.x, G.int x.y, G.bool x.signed, G.lit (.int .u8 x.code)]
structure S13 where
 msg : ByteArray
 addr : Int
 deriving DecidableEq, Inhabited
abbrev S13.c (x : S13) : List G := [G.str x.msg, G.lit (.int .u64 x.addr)]
structure S45 where
 fFrom : Int
 fTo : Int
 Days : Int
 deriving DecidableEq, Inhabited
abbrev S45.c (x : S45) : List G := [G.int x.fFrom, G.int x.fTo, G.int x.Days]
structure S115 where
 Name : ByteArray
 Carrier : ByteArray
 Kind : ByteArray
 Terminal : ByteArray
 Partner : ByteArray
 Link : ByteArray
 Period : S45
 Minute : Int
 Seats : Int
 Size : Int
 Noise : Int
 deriving DecidableEq, Inhabited
abbrev S115.c (x : S115) : List G := [G.str x.Name, G.str x.Carrier, G.str x.Kind, G.str x.Terminal, G.str x.Partner, G.str x.Link, G.int x.Period.fFrom, G.int x.Period.fTo, G.int x.Period.Days, G.int x.Minute, G.int x.Seats, G.int x.Size, G.int x.Noise]
structure S6034 where
 Action : ByteArray
 Request : S115
 deriving DecidableEq, Inhabited
abbrev S6034.c (x : S6034) : List G := [G.str x.Action, G.str x.Request.Name, G.str x.Request.Carrier, G.str x.Request.Kind, G.str x.Request.Terminal, G.str x.Request.Partner, G.str x.Request.Link, G.int x.Request.Period.fFrom, G.int x.Request.Period.fTo, G.int x.Request.Period.Days, G.int x.Request.Minute, G.int x.Request.Seats, G.int x.Request.Size, G.int x.Request.Noise]
structure S6051 where
 Kind : ByteArray
 Airport : ByteArray
 Season : ByteArray
 Day : Int
 Lines : List S6034
 deriving DecidableEq, Inhabited
abbrev S6051.c (x : S6051) : List G := [G.str x.Kind, G.str x.Airport, G.str x.Season, G.int x.Day, G.sl 14 (List.map S6034.c x.Lines)]
structure S6090 where
 Request : S115
 Historic : Bool
 Day : Int
 deriving DecidableEq, Inhabited
abbrev S6090.c (x : S6090) : List G := [G.str x.Request.Name, G.str x.Request.Carrier, G.str x.Request.Kind, G.str x.Request.Terminal, G.str x.Request.Partner, G.str x.Request.Link, G.int x.Request.Period.fFrom, G.int x.Request.Period.fTo, G.int x.Request.Period.Days, G.int x.Request.Minute, G.int x.Request.Seats, G.int x.Request.Size, G.int x.Request.Noise, G.bool x.Historic, G.int x.Day]
structure S6171 where
 lo : Int
 hi : Int
 deriving DecidableEq, Inhabited
abbrev S6171.c (x : S6171) : List G := [G.lit (.int .u8 x.lo), G.lit (.int .u8 x.hi)]
theorem K102 : Known Tryz.prog 26 := ⟨_, Tryz.func26, by kernel_rfl, by kernel_rfl⟩
theorem K104 : Known Tryz.prog 12 := ⟨_, Tryz.func12, by kernel_rfl, by kernel_rfl⟩
theorem K109 : Known Tryz.prog 41 := ⟨_, Tryz.func41, by kernel_rfl, by kernel_rfl⟩
theorem K135 : Known Tryz.prog 32 := ⟨_, Tryz.func32, by kernel_rfl, by kernel_rfl⟩
theorem K136 : Known Tryz.prog 33 := ⟨_, Tryz.func33, by kernel_rfl, by kernel_rfl⟩
theorem K147 : Known Tryz.prog 53 := ⟨_, Tryz.func53, by kernel_rfl, by kernel_rfl⟩
theorem K152 : Known Tryz.prog 25 := ⟨_, Tryz.func25, by kernel_rfl, by kernel_rfl⟩
theorem K153 : Known Tryz.prog 42 := ⟨_, Tryz.func42, by kernel_rfl, by kernel_rfl⟩
theorem K154 : Known Tryz.prog 43 := ⟨_, Tryz.func43, by kernel_rfl, by kernel_rfl⟩
theorem K155 : Known Tryz.prog 27 := ⟨_, Tryz.func27, by kernel_rfl, by kernel_rfl⟩
theorem K157 : Known Tryz.prog 36 := ⟨_, Tryz.func36, by kernel_rfl, by kernel_rfl⟩
theorem K180 : Known Tryz.prog 82 := ⟨_, Tryz.func82, by kernel_rfl, by kernel_rfl⟩
theorem K192 : Known Tryz.prog 81 := ⟨_, Tryz.func81, by kernel_rfl, by kernel_rfl⟩
theorem K40 : Known Tryz.prog 22 := ⟨_, Tryz.func22, by kernel_rfl, by kernel_rfl⟩
theorem K4014 : Known Tryz.prog 5 := ⟨_, Tryz.func5, by kernel_rfl, by kernel_rfl⟩
theorem K4017 : Known Tryz.prog 18 := ⟨_, Tryz.func18, by kernel_rfl, by kernel_rfl⟩
theorem K4031 : Known Tryz.prog 21 := ⟨_, Tryz.func21, by kernel_rfl, by kernel_rfl⟩
theorem K4056 : Known Tryz.prog 47 := ⟨_, Tryz.func47, by kernel_rfl, by kernel_rfl⟩
theorem K4082 : Known Tryz.prog 44 := ⟨_, Tryz.func44, by kernel_rfl, by kernel_rfl⟩
theorem K4083 : Known Tryz.prog 92 := ⟨_, Tryz.func92, by kernel_rfl, by kernel_rfl⟩
theorem K4084 : Known Tryz.prog 93 := ⟨_, Tryz.func93, by kernel_rfl, by kernel_rfl⟩
theorem K4085 : Known Tryz.prog 45 := ⟨_, Tryz.func45, by kernel_rfl, by kernel_rfl⟩
theorem K4086 : Known Tryz.prog 56 := ⟨_, Tryz.func56, by kernel_rfl, by kernel_rfl⟩
theorem K4087 : Known Tryz.prog 94 := ⟨_, Tryz.func94, by kernel_rfl, by kernel_rfl⟩
theorem K6006 : Known Tryz.prog 6 := ⟨_, Tryz.func6, by kernel_rfl, by kernel_rfl⟩
theorem K6008 : Known Tryz.prog 8 := ⟨_, Tryz.func8, by kernel_rfl, by kernel_rfl⟩
theorem K6009 : Known Tryz.prog 9 := ⟨_, Tryz.func9, by kernel_rfl, by kernel_rfl⟩
theorem K6011 : Known Tryz.prog 11 := ⟨_, Tryz.func11, by kernel_rfl, by kernel_rfl⟩
theorem K6014 : Known Tryz.prog 14 := ⟨_, Tryz.func14, by kernel_rfl, by kernel_rfl⟩
theorem K6015 : Known Tryz.prog 15 := ⟨_, Tryz.func15, by kernel_rfl, by kernel_rfl⟩
theorem K6016 : Known Tryz.prog 16 := ⟨_, Tryz.func16, by kernel_rfl, by kernel_rfl⟩
theorem K6017 : Known Tryz.prog 17 := ⟨_, Tryz.func17, by kernel_rfl, by kernel_rfl⟩
theorem K6028 : Known Tryz.prog 28 := ⟨_, Tryz.func28, by kernel_rfl, by kernel_rfl⟩
theorem K6029 : Known Tryz.prog 29 := ⟨_, Tryz.func29, by kernel_rfl, by kernel_rfl⟩
theorem K6030 : Known Tryz.prog 30 := ⟨_, Tryz.func30, by kernel_rfl, by kernel_rfl⟩
theorem K6031 : Known Tryz.prog 31 := ⟨_, Tryz.func31, by kernel_rfl, by kernel_rfl⟩
theorem K6035 : Known Tryz.prog 35 := ⟨_, Tryz.func35, by kernel_rfl, by kernel_rfl⟩
theorem K6037 : Known Tryz.prog 37 := ⟨_, Tryz.func37, by kernel_rfl, by kernel_rfl⟩
theorem K6038 : Known Tryz.prog 38 := ⟨_, Tryz.func38, by kernel_rfl, by kernel_rfl⟩
theorem K6039 : Known Tryz.prog 39 := ⟨_, Tryz.func39, by kernel_rfl, by kernel_rfl⟩
theorem K6040 : Known Tryz.prog 40 := ⟨_, Tryz.func40, by kernel_rfl, by kernel_rfl⟩
theorem K6046 : Known Tryz.prog 46 := ⟨_, Tryz.func46, by kernel_rfl, by kernel_rfl⟩
theorem K6048 : Known Tryz.prog 48 := ⟨_, Tryz.func48, by kernel_rfl, by kernel_rfl⟩
theorem K6050 : Known Tryz.prog 50 := ⟨_, Tryz.func50, by kernel_rfl, by kernel_rfl⟩
theorem K6058 : Known Tryz.prog 58 := ⟨_, Tryz.func58, by kernel_rfl, by kernel_rfl⟩
theorem K6061 : Known Tryz.prog 61 := ⟨_, Tryz.func61, by kernel_rfl, by kernel_rfl⟩
theorem K6062 : Known Tryz.prog 62 := ⟨_, Tryz.func62, by kernel_rfl, by kernel_rfl⟩
theorem K6063 : Known Tryz.prog 63 := ⟨_, Tryz.func63, by kernel_rfl, by kernel_rfl⟩
theorem K6064 : Known Tryz.prog 64 := ⟨_, Tryz.func64, by kernel_rfl, by kernel_rfl⟩
theorem K6065 : Known Tryz.prog 65 := ⟨_, Tryz.func65, by kernel_rfl, by kernel_rfl⟩
theorem K6066 : Known Tryz.prog 66 := ⟨_, Tryz.func66, by kernel_rfl, by kernel_rfl⟩
theorem K6067 : Known Tryz.prog 67 := ⟨_, Tryz.func67, by kernel_rfl, by kernel_rfl⟩
theorem K6071 : Known Tryz.prog 71 := ⟨_, Tryz.func71, by kernel_rfl, by kernel_rfl⟩
theorem K6078 : Known Tryz.prog 78 := ⟨_, Tryz.func78, by kernel_rfl, by kernel_rfl⟩
theorem K6083 : Known Tryz.prog 83 := ⟨_, Tryz.func83, by kernel_rfl, by kernel_rfl⟩
theorem K6084 : Known Tryz.prog 84 := ⟨_, Tryz.func84, by kernel_rfl, by kernel_rfl⟩
theorem K6086 : Known Tryz.prog 86 := ⟨_, Tryz.func86, by kernel_rfl, by kernel_rfl⟩
theorem K6087 : Known Tryz.prog 87 := ⟨_, Tryz.func87, by kernel_rfl, by kernel_rfl⟩
theorem K6088 : Known Tryz.prog 88 := ⟨_, Tryz.func88, by kernel_rfl, by kernel_rfl⟩
theorem K6089 : Known Tryz.prog 89 := ⟨_, Tryz.func89, by kernel_rfl, by kernel_rfl⟩
theorem K6090 : Known Tryz.prog 90 := ⟨_, Tryz.func90, by kernel_rfl, by kernel_rfl⟩
theorem K6091 : Known Tryz.prog 91 := ⟨_, Tryz.func91, by kernel_rfl, by kernel_rfl⟩
theorem K6099 : Known Tryz.prog 99 := ⟨_, Tryz.func99, by kernel_rfl, by kernel_rfl⟩
theorem K6100 : Known Tryz.prog 100 := ⟨_, Tryz.func100, by kernel_rfl, by kernel_rfl⟩
theorem K6101 : Known Tryz.prog 101 := ⟨_, Tryz.func101, by kernel_rfl, by kernel_rfl⟩
theorem K6102 : Known Tryz.prog 102 := ⟨_, Tryz.func102, by kernel_rfl, by kernel_rfl⟩
theorem K6103 : Known Tryz.prog 103 := ⟨_, Tryz.func103, by kernel_rfl, by kernel_rfl⟩
theorem K6104 : Known Tryz.prog 104 := ⟨_, Tryz.func104, by kernel_rfl, by kernel_rfl⟩
theorem K6107 : Known Tryz.prog 107 := ⟨_, Tryz.func107, by kernel_rfl, by kernel_rfl⟩
theorem K6108 : Known Tryz.prog 108 := ⟨_, Tryz.func108, by kernel_rfl, by kernel_rfl⟩
theorem K6109 : Known Tryz.prog 109 := ⟨_, Tryz.func109, by kernel_rfl, by kernel_rfl⟩
theorem K6110 : Known Tryz.prog 110 := ⟨_, Tryz.func110, by kernel_rfl, by kernel_rfl⟩
theorem K6113 : Known Tryz.prog 113 := ⟨_, Tryz.func113, by kernel_rfl, by kernel_rfl⟩
theorem K6114 : Known Tryz.prog 114 := ⟨_, Tryz.func114, by kernel_rfl, by kernel_rfl⟩
theorem K6122 : Known Tryz.prog 122 := ⟨_, Tryz.func122, by kernel_rfl, by kernel_rfl⟩
theorem K6128 : Known Tryz.prog 128 := ⟨_, Tryz.func128, by kernel_rfl, by kernel_rfl⟩
theorem K6129 : Known Tryz.prog 129 := ⟨_, Tryz.func129, by kernel_rfl, by kernel_rfl⟩
theorem K69 : Known Tryz.prog 10 := ⟨_, Tryz.func10, by kernel_rfl, by kernel_rfl⟩
theorem K83 : Known Tryz.prog 19 := ⟨_, Tryz.func19, by kernel_rfl, by kernel_rfl⟩
theorem K89 : Known Tryz.prog 23 := ⟨_, Tryz.func23, by kernel_rfl, by kernel_rfl⟩
theorem K90 : Known Tryz.prog 24 := ⟨_, Tryz.func24, by kernel_rfl, by kernel_rfl⟩
theorem K91 : Known Tryz.prog 20 := ⟨_, Tryz.func20, by kernel_rfl, by kernel_rfl⟩
theorem app82 : appK Tryz.prog 38 = some (3, 1, 8) := by kernel_rfl
theorem app22 : appK Tryz.prog 43 = some (9, 1, 16) := by kernel_rfl
theorem app112 : appK Tryz.prog 46 = some (25, 13, 152) := by kernel_rfl
theorem app6050 : appK Tryz.prog 50 = some (35, 14, 168) := by kernel_rfl
theorem app6054 : appK Tryz.prog 54 = some (52, 5, 80) := by kernel_rfl
theorem app6087 : appK Tryz.prog 87 = some (91, 15, 168) := by kernel_rfl
theorem fl46_0 : fieldK Tryz.prog 23 0 = some (0, 1, false) := by kernel_rfl
theorem fl46_1 : fieldK Tryz.prog 23 1 = some (1, 1, false) := by kernel_rfl
theorem fl46_2 : fieldK Tryz.prog 23 2 = some (2, 1, false) := by kernel_rfl
theorem fl116_0 : fieldK Tryz.prog 25 0 = some (0, 1, false) := by kernel_rfl
theorem fl116_1 : fieldK Tryz.prog 25 1 = some (1, 1, false) := by kernel_rfl
theorem fl116_10 : fieldK Tryz.prog 25 10 = some (12, 1, false) := by kernel_rfl
theorem fl116_2 : fieldK Tryz.prog 25 2 = some (2, 1, false) := by kernel_rfl
theorem fl116_3 : fieldK Tryz.prog 25 3 = some (3, 1, false) := by kernel_rfl
theorem fl116_4 : fieldK Tryz.prog 25 4 = some (4, 1, false) := by kernel_rfl
theorem fl116_5 : fieldK Tryz.prog 25 5 = some (5, 1, false) := by kernel_rfl
theorem fl116_6 : fieldK Tryz.prog 25 6 = some (6, 3, true) := by kernel_rfl
theorem fl116_7 : fieldK Tryz.prog 25 7 = some (9, 1, false) := by kernel_rfl
theorem fl116_8 : fieldK Tryz.prog 25 8 = some (10, 1, false) := by kernel_rfl
theorem fl116_9 : fieldK Tryz.prog 25 9 = some (11, 1, false) := by kernel_rfl
theorem fl6035_0 : fieldK Tryz.prog 35 0 = some (0, 1, false) := by kernel_rfl
theorem fl6035_1 : fieldK Tryz.prog 35 1 = some (1, 13, true) := by kernel_rfl
theorem fl6052_0 : fieldK Tryz.prog 52 0 = some (0, 1, false) := by kernel_rfl
theorem fl6052_1 : fieldK Tryz.prog 52 1 = some (1, 1, false) := by kernel_rfl
theorem fl6052_2 : fieldK Tryz.prog 52 2 = some (2, 1, false) := by kernel_rfl
theorem fl6052_3 : fieldK Tryz.prog 52 3 = some (3, 1, false) := by kernel_rfl
theorem fl6052_4 : fieldK Tryz.prog 52 4 = some (4, 1, false) := by kernel_rfl
theorem fl6091_0 : fieldK Tryz.prog 91 0 = some (0, 13, true) := by kernel_rfl
theorem pl46 : placesK Tryz.prog 23 = some [(0, 1), (1, 1), (2, 1)] := by kernel_rfl
theorem pl116 : placesK Tryz.prog 25 = some [(0, 1), (1, 1), (2, 1), (3, 1), (4, 1), (5, 1), (6, 3), (9, 1), (10, 1), (11, 1), (12, 1)] := by kernel_rfl
theorem pl6035 : placesK Tryz.prog 35 = some [(0, 1), (1, 13)] := by kernel_rfl
theorem pl6052 : placesK Tryz.prog 52 = some [(0, 1), (1, 1), (2, 1), (3, 1), (4, 1)] := by kernel_rfl
theorem pl6091 : placesK Tryz.prog 91 = some [(0, 13), (13, 1), (14, 1)] := by kernel_rfl
theorem ty46 : tyK Tryz.prog 23 = some (3, true) := by kernel_rfl
theorem ty116 : tyK Tryz.prog 25 = some (13, true) := by kernel_rfl
theorem ty37 : tyK Tryz.prog 29 = some (1, false) := by kernel_rfl
theorem ty3 : tyK Tryz.prog 3 = some (1, false) := by kernel_rfl
theorem ty6035 : tyK Tryz.prog 35 = some (14, true) := by kernel_rfl
theorem ty4 : tyK Tryz.prog 4 = some (1, false) := by kernel_rfl
theorem ty6050 : tyK Tryz.prog 50 = some (1, false) := by kernel_rfl
theorem ty6052 : tyK Tryz.prog 52 = some (5, true) := by kernel_rfl
theorem ty6068 : tyK Tryz.prog 68 = some (1, false) := by kernel_rfl
theorem ty6070 : tyK Tryz.prog 70 = some (1, false) := by kernel_rfl
theorem ty9 : tyK Tryz.prog 9 = some (1, false) := by kernel_rfl
theorem ty6091 : tyK Tryz.prog 91 = some (15, true) := by kernel_rfl
theorem z46 : zeroK Tryz.prog 23 = some [.int .i64 0, .int .i64 0, .int .i64 0] := by kernel_rfl
theorem z116 : zeroK Tryz.prog 25 = some [.string ByteArray.empty, .string ByteArray.empty, .string ByteArray.empty, .string ByteArray.empty, .string ByteArray.empty, .string ByteArray.empty, .int .i64 0, .int .i64 0, .int .i64 0, .int .i64 0, .int .i64 0, .int .i64 0, .int .i64 0] := by kernel_rfl
theorem z37 : zeroK Tryz.prog 29 = some [.int .i64 0] := by kernel_rfl
theorem z3 : zeroK Tryz.prog 3 = some [.int .i64 0] := by kernel_rfl
theorem z6035 : zeroK Tryz.prog 35 = some [.string ByteArray.empty, .string ByteArray.empty, .string ByteArray.empty, .string ByteArray.empty, .string ByteArray.empty, .string ByteArray.empty, .string ByteArray.empty, .int .i64 0, .int .i64 0, .int .i64 0, .int .i64 0, .int .i64 0, .int .i64 0, .int .i64 0] := by kernel_rfl
theorem z4 : zeroK Tryz.prog 4 = some [.bool false] := by kernel_rfl
theorem z6052 : zeroK Tryz.prog 52 = some [.string ByteArray.empty, .string ByteArray.empty, .string ByteArray.empty, .int .i64 0, .slice none 0 0] := by kernel_rfl
theorem z9 : zeroK Tryz.prog 9 = some [.string ByteArray.empty] := by kernel_rfl
theorem z6091 : zeroK Tryz.prog 91 = some [.string ByteArray.empty, .string ByteArray.empty, .string ByteArray.empty, .string ByteArray.empty, .string ByteArray.empty, .string ByteArray.empty, .int .i64 0, .int .i64 0, .int .i64 0, .int .i64 0, .int .i64 0, .int .i64 0, .int .i64 0, .bool false, .int .i64 0] := by kernel_rfl
theorem flat116 : flatK Tryz.prog 60 25 = some [.str, .str, .str, .str, .str, .str, .int .i64, .int .i64, .int .i64, .int .i64, .int .i64, .int .i64, .int .i64] ∧ structB Tryz.prog 25 = true ∧ Tryz.prog.eqGuardType Tryz.prog.depth 25 = false := ⟨by kernel_rfl, by kernel_rfl, by kernel_rfl⟩
theorem mk6087 : mkK Tryz.prog 87 = some (91, 15, 168, [.string ByteArray.empty, .string ByteArray.empty, .string ByteArray.empty, .string ByteArray.empty, .string ByteArray.empty, .string ByteArray.empty, .int .i64 0, .int .i64 0, .int .i64 0, .int .i64 0, .int .i64 0, .int .i64 0, .int .i64 0, .bool false, .int .i64 0]) := by kernel_rfl
theorem zr9 : (Tryz.prog.info? 9).bind (·.zero) = some (.string ByteArray.empty) := by kernel_rfl
end Go.Sim
