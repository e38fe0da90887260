/-
  What is proved: facts of the types and the functions, and the structures of the program.
-/
import Derived.Test.YtkeegnagpekgmaaGreatVrA5
set_option linter.unusedSectionVars false
set_option linter.unusedSimpArgs false
set_option linter.unusedVariables false
set_option linter.unnecessarySimpa false
set_option linter.deprecated false
set_option maxRecDepth 10000
namespace Go.Sim
open Go.Proofs
structure S7 where
 x : Int
 y : Int
 signed : Bool
 code : Int
 deriving DecidableEq, Inhabited
abbrev S7.c (x : S7) : List G := [G.int x.x, G.int x.y, G.bool x.signed, G.lit (.int .u8 x.code)]
structure S13 where
 msg : ByteArray
 addr : Int
 deriving DecidableEq, Inhabited
abbrev S13.c (x : S13) : List G := [G.str x.msg, G.lit (.int .u64 x.addr)]
structure S2028 where
 Minute : Int
 Ground : Int
 Size : Int
 Days : Int
 deriving DecidableEq, Inhabited
abbrev S2028.c (x : S2028) : List G := [G.lit (.int .u16 x.Minute), G.lit (.int .u16 x.Ground), G.lit (.int .u8 x.Size), G.lit (.int .u8 x.Days)]
structure S45 where
 fFrom : Int
 fTo : Int
 Days : Int
 deriving DecidableEq, Inhabited
abbrev S45.c (x : S45) : List G := [G.int x.fFrom, G.int x.fTo, G.int x.Days]
structure S115 where
 Name : ByteArray
 Carrier : ByteArray
 Kind : ByteArray
 Terminal : ByteArray
 Partner : ByteArray
 Link : ByteArray
 Period : S45
 Minute : Int
 Seats : Int
 Size : Int
 Noise : Int
 deriving DecidableEq, Inhabited
abbrev S115.c (x : S115) : List G := [G.str x.Name, G.str x.Carrier, G.str x.Kind, G.str x.Terminal, G.str x.Partner, G.str x.Link, G.int x.Period.fFrom, G.int x.Period.fTo, G.int x.Period.Days, G.int x.Minute, G.int x.Seats, G.int x.Size, G.int x.Noise]
structure S1124 where
 Name : ByteArray
 Start : Int
 End : Int
 Size : Int
 Terminal : ByteArray
 deriving DecidableEq, Inhabited
abbrev S1124.c (x : S1124) : List G := [G.str x.Name, G.int x.Start, G.int x.End, G.int x.Size, G.str x.Terminal]
structure S1079 where
 Moment : Int
 Kind : ByteArray
 Terminal : ByteArray
 Seats : Int
 Size : Int
 Noise : Int
 Name : ByteArray
 deriving DecidableEq, Inhabited
abbrev S1079.c (x : S1079) : List G := [G.int x.Moment, G.str x.Kind, G.str x.Terminal, G.int x.Seats, G.int x.Size, G.int x.Noise, G.str x.Name]
structure S1122 where
 Name : ByteArray
 Size : Int
 Terminal : ByteArray
 deriving DecidableEq, Inhabited
abbrev S1122.c (x : S1122) : List G := [G.str x.Name, G.int x.Size, G.str x.Terminal]
structure S1106 where
 Moment : Int
 Size : Int
 deriving DecidableEq, Inhabited
abbrev S1106.c (x : S1106) : List G := [G.int x.Moment, G.int x.Size]
structure S2062 where
 Name : ByteArray
 Kind : ByteArray
 Terminal : ByteArray
 Length : Int
 Step : Int
 fFrom : Int
 fTo : Int
 Period : S45
 Most : Int
 deriving DecidableEq, Inhabited
abbrev S2062.c (x : S2062) : List G := [G.str x.Name, G.str x.Kind, G.str x.Terminal, G.int x.Length, G.int x.Step, G.int x.fFrom, G.int x.fTo, G.int x.Period.fFrom, G.int x.Period.fTo, G.int x.Period.Days, G.int x.Most]
structure S1063 where
 Terminal : ByteArray
 Kind : ByteArray
 Length : Int
 Step : Int
 Most : Int
 deriving DecidableEq, Inhabited
abbrev S1063.c (x : S1063) : List G := [G.str x.Terminal, G.str x.Kind, G.int x.Length, G.int x.Step, G.int x.Most]
structure S2068 where
 Limit : Int
 Begin : Int
 Count : Int
 deriving DecidableEq, Inhabited
abbrev S2068.c (x : S2068) : List G := [G.int x.Limit, G.int x.Begin, G.int x.Count]
structure S1071 where
 Limit : Int
 Moment : Int
 Seats : Int
 deriving DecidableEq, Inhabited
abbrev S1071.c (x : S1071) : List G := [G.int x.Limit, G.int x.Moment, G.int x.Seats]
structure S1190 where
 stands : List S1122
 turns : List S1124
 buffer : Int
 given : List Int
 deriving DecidableEq, Inhabited
abbrev S1190.c (x : S1190) : List G := [G.sl 3 (List.map S1122.c x.stands), G.sl 5 (List.map S1124.c x.turns), G.int x.buffer, G.sl 1 (List.map cInt x.given)]
structure S1195 where
 moments : List Int
 before : List Int
 deriving DecidableEq, Inhabited
abbrev S1195.c (x : S1195) : List G := [G.sl 1 (List.map cInt x.moments), G.sl 1 (List.map cInt x.before)]
theorem K102 : Known Tryz.prog 71 := ⟨_, Tryz.func71, by kernel_rfl, by kernel_rfl⟩
theorem K1020 : Known Tryz.prog 15 := ⟨_, Tryz.func15, by kernel_rfl, by kernel_rfl⟩
theorem K1027 : Known Tryz.prog 29 := ⟨_, Tryz.func29, by kernel_rfl, by kernel_rfl⟩
theorem K1028 : Known Tryz.prog 16 := ⟨_, Tryz.func16, by kernel_rfl, by kernel_rfl⟩
theorem K1029 : Known Tryz.prog 52 := ⟨_, Tryz.func52, by kernel_rfl, by kernel_rfl⟩
theorem K1039 : Known Tryz.prog 21 := ⟨_, Tryz.func21, by kernel_rfl, by kernel_rfl⟩
theorem K1043 : Known Tryz.prog 19 := ⟨_, Tryz.func19, by kernel_rfl, by kernel_rfl⟩
theorem K1045 : Known Tryz.prog 23 := ⟨_, Tryz.func23, by kernel_rfl, by kernel_rfl⟩
theorem K1085 : Known Tryz.prog 28 := ⟨_, Tryz.func28, by kernel_rfl, by kernel_rfl⟩
theorem K1086 : Known Tryz.prog 30 := ⟨_, Tryz.func30, by kernel_rfl, by kernel_rfl⟩
theorem K1088 : Known Tryz.prog 31 := ⟨_, Tryz.func31, by kernel_rfl, by kernel_rfl⟩
theorem K1089 : Known Tryz.prog 78 := ⟨_, Tryz.func78, by kernel_rfl, by kernel_rfl⟩
theorem K1092 : Known Tryz.prog 48 := ⟨_, Tryz.func48, by kernel_rfl, by kernel_rfl⟩
theorem K1093 : Known Tryz.prog 47 := ⟨_, Tryz.func47, by kernel_rfl, by kernel_rfl⟩
theorem K1098 : Known Tryz.prog 63 := ⟨_, Tryz.func63, by kernel_rfl, by kernel_rfl⟩
theorem K1099 : Known Tryz.prog 76 := ⟨_, Tryz.func76, by kernel_rfl, by kernel_rfl⟩
theorem K1100 : Known Tryz.prog 77 := ⟨_, Tryz.func77, by kernel_rfl, by kernel_rfl⟩
theorem K1101 : Known Tryz.prog 102 := ⟨_, Tryz.func102, by kernel_rfl, by kernel_rfl⟩
theorem K1102 : Known Tryz.prog 103 := ⟨_, Tryz.func103, by kernel_rfl, by kernel_rfl⟩
theorem K1111 : Known Tryz.prog 53 := ⟨_, Tryz.func53, by kernel_rfl, by kernel_rfl⟩
theorem K1112 : Known Tryz.prog 55 := ⟨_, Tryz.func55, by kernel_rfl, by kernel_rfl⟩
theorem K1114 : Known Tryz.prog 54 := ⟨_, Tryz.func54, by kernel_rfl, by kernel_rfl⟩
theorem K1116 : Known Tryz.prog 66 := ⟨_, Tryz.func66, by kernel_rfl, by kernel_rfl⟩
theorem K1149 : Known Tryz.prog 105 := ⟨_, Tryz.func105, by kernel_rfl, by kernel_rfl⟩
theorem K1150 : Known Tryz.prog 106 := ⟨_, Tryz.func106, by kernel_rfl, by kernel_rfl⟩
theorem K1151 : Known Tryz.prog 107 := ⟨_, Tryz.func107, by kernel_rfl, by kernel_rfl⟩
theorem K1152 : Known Tryz.prog 108 := ⟨_, Tryz.func108, by kernel_rfl, by kernel_rfl⟩
theorem K1153 : Known Tryz.prog 109 := ⟨_, Tryz.func109, by kernel_rfl, by kernel_rfl⟩
theorem K1155 : Known Tryz.prog 112 := ⟨_, Tryz.func112, by kernel_rfl, by kernel_rfl⟩
theorem K1156 : Known Tryz.prog 111 := ⟨_, Tryz.func111, by kernel_rfl, by kernel_rfl⟩
theorem K1172 : Known Tryz.prog 141 := ⟨_, Tryz.func141, by kernel_rfl, by kernel_rfl⟩
theorem K1173 : Known Tryz.prog 142 := ⟨_, Tryz.func142, by kernel_rfl, by kernel_rfl⟩
theorem K1175 : Known Tryz.prog 144 := ⟨_, Tryz.func144, by kernel_rfl, by kernel_rfl⟩
theorem K1192 : Known Tryz.prog 168 := ⟨_, Tryz.func168, by kernel_rfl, by kernel_rfl⟩
theorem K1194 : Known Tryz.prog 160 := ⟨_, Tryz.func160, by kernel_rfl, by kernel_rfl⟩
theorem K1195 : Known Tryz.prog 170 := ⟨_, Tryz.func170, by kernel_rfl, by kernel_rfl⟩
theorem K147 : Known Tryz.prog 68 := ⟨_, Tryz.func68, by kernel_rfl, by kernel_rfl⟩
theorem K148 : Known Tryz.prog 140 := ⟨_, Tryz.func140, by kernel_rfl, by kernel_rfl⟩
theorem K152 : Known Tryz.prog 119 := ⟨_, Tryz.func119, by kernel_rfl, by kernel_rfl⟩
theorem K153 : Known Tryz.prog 120 := ⟨_, Tryz.func120, by kernel_rfl, by kernel_rfl⟩
theorem K154 : Known Tryz.prog 121 := ⟨_, Tryz.func121, by kernel_rfl, by kernel_rfl⟩
theorem K155 : Known Tryz.prog 122 := ⟨_, Tryz.func122, by kernel_rfl, by kernel_rfl⟩
theorem K167 : Known Tryz.prog 110 := ⟨_, Tryz.func110, by kernel_rfl, by kernel_rfl⟩
theorem K187 : Known Tryz.prog 152 := ⟨_, Tryz.func152, by kernel_rfl, by kernel_rfl⟩
theorem K188 : Known Tryz.prog 153 := ⟨_, Tryz.func153, by kernel_rfl, by kernel_rfl⟩
theorem K2006 : Known Tryz.prog 6 := ⟨_, Tryz.func6, by kernel_rfl, by kernel_rfl⟩
theorem K2009 : Known Tryz.prog 9 := ⟨_, Tryz.func9, by kernel_rfl, by kernel_rfl⟩
theorem K2017 : Known Tryz.prog 17 := ⟨_, Tryz.func17, by kernel_rfl, by kernel_rfl⟩
theorem K2018 : Known Tryz.prog 18 := ⟨_, Tryz.func18, by kernel_rfl, by kernel_rfl⟩
theorem K202 : Known Tryz.prog 143 := ⟨_, Tryz.func143, by kernel_rfl, by kernel_rfl⟩
theorem K2020 : Known Tryz.prog 20 := ⟨_, Tryz.func20, by kernel_rfl, by kernel_rfl⟩
theorem K2022 : Known Tryz.prog 22 := ⟨_, Tryz.func22, by kernel_rfl, by kernel_rfl⟩
theorem K2027 : Known Tryz.prog 27 := ⟨_, Tryz.func27, by kernel_rfl, by kernel_rfl⟩
theorem K2050 : Known Tryz.prog 50 := ⟨_, Tryz.func50, by kernel_rfl, by kernel_rfl⟩
theorem K2051 : Known Tryz.prog 51 := ⟨_, Tryz.func51, by kernel_rfl, by kernel_rfl⟩
theorem K2056 : Known Tryz.prog 56 := ⟨_, Tryz.func56, by kernel_rfl, by kernel_rfl⟩
theorem K2057 : Known Tryz.prog 57 := ⟨_, Tryz.func57, by kernel_rfl, by kernel_rfl⟩
theorem K2058 : Known Tryz.prog 58 := ⟨_, Tryz.func58, by kernel_rfl, by kernel_rfl⟩
theorem K2059 : Known Tryz.prog 59 := ⟨_, Tryz.func59, by kernel_rfl, by kernel_rfl⟩
theorem K2060 : Known Tryz.prog 60 := ⟨_, Tryz.func60, by kernel_rfl, by kernel_rfl⟩
theorem K2061 : Known Tryz.prog 61 := ⟨_, Tryz.func61, by kernel_rfl, by kernel_rfl⟩
theorem K2062 : Known Tryz.prog 62 := ⟨_, Tryz.func62, by kernel_rfl, by kernel_rfl⟩
theorem K2064 : Known Tryz.prog 64 := ⟨_, Tryz.func64, by kernel_rfl, by kernel_rfl⟩
theorem K2065 : Known Tryz.prog 65 := ⟨_, Tryz.func65, by kernel_rfl, by kernel_rfl⟩
theorem K2067 : Known Tryz.prog 67 := ⟨_, Tryz.func67, by kernel_rfl, by kernel_rfl⟩
theorem K2069 : Known Tryz.prog 69 := ⟨_, Tryz.func69, by kernel_rfl, by kernel_rfl⟩
theorem K2070 : Known Tryz.prog 70 := ⟨_, Tryz.func70, by kernel_rfl, by kernel_rfl⟩
theorem K2072 : Known Tryz.prog 72 := ⟨_, Tryz.func72, by kernel_rfl, by kernel_rfl⟩
theorem K2074 : Known Tryz.prog 74 := ⟨_, Tryz.func74, by kernel_rfl, by kernel_rfl⟩
theorem K2075 : Known Tryz.prog 75 := ⟨_, Tryz.func75, by kernel_rfl, by kernel_rfl⟩
theorem K2099 : Known Tryz.prog 99 := ⟨_, Tryz.func99, by kernel_rfl, by kernel_rfl⟩
theorem K2100 : Known Tryz.prog 100 := ⟨_, Tryz.func100, by kernel_rfl, by kernel_rfl⟩
theorem K2113 : Known Tryz.prog 113 := ⟨_, Tryz.func113, by kernel_rfl, by kernel_rfl⟩
theorem K2114 : Known Tryz.prog 114 := ⟨_, Tryz.func114, by kernel_rfl, by kernel_rfl⟩
theorem K2115 : Known Tryz.prog 115 := ⟨_, Tryz.func115, by kernel_rfl, by kernel_rfl⟩
theorem K2116 : Known Tryz.prog 116 := ⟨_, Tryz.func116, by kernel_rfl, by kernel_rfl⟩
theorem K2117 : Known Tryz.prog 117 := ⟨_, Tryz.func117, by kernel_rfl, by kernel_rfl⟩
theorem K2118 : Known Tryz.prog 118 := ⟨_, Tryz.func118, by kernel_rfl, by kernel_rfl⟩
theorem K2138 : Known Tryz.prog 138 := ⟨_, Tryz.func138, by kernel_rfl, by kernel_rfl⟩
theorem K2148 : Known Tryz.prog 148 := ⟨_, Tryz.func148, by kernel_rfl, by kernel_rfl⟩
theorem K2149 : Known Tryz.prog 149 := ⟨_, Tryz.func149, by kernel_rfl, by kernel_rfl⟩
theorem K2150 : Known Tryz.prog 150 := ⟨_, Tryz.func150, by kernel_rfl, by kernel_rfl⟩
theorem K2166 : Known Tryz.prog 166 := ⟨_, Tryz.func166, by kernel_rfl, by kernel_rfl⟩
theorem K2167 : Known Tryz.prog 167 := ⟨_, Tryz.func167, by kernel_rfl, by kernel_rfl⟩
theorem K2171 : Known Tryz.prog 171 := ⟨_, Tryz.func171, by kernel_rfl, by kernel_rfl⟩
theorem K88 : Known Tryz.prog 104 := ⟨_, Tryz.func104, by kernel_rfl, by kernel_rfl⟩
theorem K89 : Known Tryz.prog 46 := ⟨_, Tryz.func46, by kernel_rfl, by kernel_rfl⟩
theorem K90 : Known Tryz.prog 5 := ⟨_, Tryz.func5, by kernel_rfl, by kernel_rfl⟩
theorem K91 : Known Tryz.prog 49 := ⟨_, Tryz.func49, by kernel_rfl, by kernel_rfl⟩
theorem K96 : Known Tryz.prog 45 := ⟨_, Tryz.func45, by kernel_rfl, by kernel_rfl⟩
theorem app1025 : appK Tryz.prog 25 = some (44, 7, 80) := by kernel_rfl
theorem app82 : appK Tryz.prog 51 = some (3, 1, 8) := by kernel_rfl
theorem fl1196_0 : fieldK Tryz.prog 115 0 = some (0, 1, false) := by kernel_rfl
theorem fl1196_1 : fieldK Tryz.prog 115 1 = some (1, 1, false) := by kernel_rfl
theorem fl46_0 : fieldK Tryz.prog 32 0 = some (0, 1, false) := by kernel_rfl
theorem fl46_1 : fieldK Tryz.prog 32 1 = some (1, 1, false) := by kernel_rfl
theorem fl46_2 : fieldK Tryz.prog 32 2 = some (2, 1, false) := by kernel_rfl
theorem fl1080_0 : fieldK Tryz.prog 44 0 = some (0, 1, false) := by kernel_rfl
theorem fl1080_1 : fieldK Tryz.prog 44 1 = some (1, 1, false) := by kernel_rfl
theorem fl1080_2 : fieldK Tryz.prog 44 2 = some (2, 1, false) := by kernel_rfl
theorem fl1080_3 : fieldK Tryz.prog 44 3 = some (3, 1, false) := by kernel_rfl
theorem fl1080_4 : fieldK Tryz.prog 44 4 = some (4, 1, false) := by kernel_rfl
theorem fl1080_5 : fieldK Tryz.prog 44 5 = some (5, 1, false) := by kernel_rfl
theorem fl1080_6 : fieldK Tryz.prog 44 6 = some (6, 1, false) := by kernel_rfl
theorem fl2063_0 : fieldK Tryz.prog 63 0 = some (0, 1, false) := by kernel_rfl
theorem fl2063_1 : fieldK Tryz.prog 63 1 = some (1, 1, false) := by kernel_rfl
theorem fl2063_2 : fieldK Tryz.prog 63 2 = some (2, 1, false) := by kernel_rfl
theorem fl2063_3 : fieldK Tryz.prog 63 3 = some (3, 1, false) := by kernel_rfl
theorem fl2063_4 : fieldK Tryz.prog 63 4 = some (4, 1, false) := by kernel_rfl
theorem fl2063_5 : fieldK Tryz.prog 63 5 = some (5, 1, false) := by kernel_rfl
theorem fl2063_6 : fieldK Tryz.prog 63 6 = some (6, 1, false) := by kernel_rfl
theorem fl2063_7 : fieldK Tryz.prog 63 7 = some (7, 3, true) := by kernel_rfl
theorem fl2063_8 : fieldK Tryz.prog 63 8 = some (10, 1, false) := by kernel_rfl
theorem fl1064_0 : fieldK Tryz.prog 65 0 = some (0, 1, false) := by kernel_rfl
theorem fl1064_1 : fieldK Tryz.prog 65 1 = some (1, 1, false) := by kernel_rfl
theorem fl1064_2 : fieldK Tryz.prog 65 2 = some (2, 1, false) := by kernel_rfl
theorem fl1064_3 : fieldK Tryz.prog 65 3 = some (3, 1, false) := by kernel_rfl
theorem fl1064_4 : fieldK Tryz.prog 65 4 = some (4, 1, false) := by kernel_rfl
theorem fl2069_0 : fieldK Tryz.prog 69 0 = some (0, 1, false) := by kernel_rfl
theorem fl2069_1 : fieldK Tryz.prog 69 1 = some (1, 1, false) := by kernel_rfl
theorem fl2069_2 : fieldK Tryz.prog 69 2 = some (2, 1, false) := by kernel_rfl
theorem fl1072_0 : fieldK Tryz.prog 74 0 = some (0, 1, false) := by kernel_rfl
theorem fl1072_1 : fieldK Tryz.prog 74 1 = some (1, 1, false) := by kernel_rfl
theorem fl1072_2 : fieldK Tryz.prog 74 2 = some (2, 1, false) := by kernel_rfl
theorem pl1196 : placesK Tryz.prog 115 = some [(0, 1), (1, 1)] := by kernel_rfl
theorem pl46 : placesK Tryz.prog 32 = some [(0, 1), (1, 1), (2, 1)] := by kernel_rfl
theorem pl2063 : placesK Tryz.prog 63 = some [(0, 1), (1, 1), (2, 1), (3, 1), (4, 1), (5, 1), (6, 1), (7, 3), (10, 1)] := by kernel_rfl
theorem pl1064 : placesK Tryz.prog 65 = some [(0, 1), (1, 1), (2, 1), (3, 1), (4, 1)] := by kernel_rfl
theorem pl2069 : placesK Tryz.prog 69 = some [(0, 1), (1, 1), (2, 1)] := by kernel_rfl
theorem pl1072 : placesK Tryz.prog 74 = some [(0, 1), (1, 1), (2, 1)] := by kernel_rfl
theorem ty1196 : tyK Tryz.prog 115 = some (2, true) := by kernel_rfl
theorem ty1025 : tyK Tryz.prog 25 = some (1, false) := by kernel_rfl
theorem ty3 : tyK Tryz.prog 3 = some (1, false) := by kernel_rfl
theorem ty46 : tyK Tryz.prog 32 = some (3, true) := by kernel_rfl
theorem ty37 : tyK Tryz.prog 35 = some (1, false) := by kernel_rfl
theorem ty1080 : tyK Tryz.prog 44 = some (7, true) := by kernel_rfl
theorem ty82 : tyK Tryz.prog 51 = some (1, false) := by kernel_rfl
theorem ty2063 : tyK Tryz.prog 63 = some (11, true) := by kernel_rfl
theorem ty1064 : tyK Tryz.prog 65 = some (5, true) := by kernel_rfl
theorem ty2069 : tyK Tryz.prog 69 = some (3, true) := by kernel_rfl
theorem ty2072 : tyK Tryz.prog 72 = some (1, false) := by kernel_rfl
theorem ty1072 : tyK Tryz.prog 74 = some (3, true) := by kernel_rfl
theorem ty9 : tyK Tryz.prog 9 = some (1, false) := by kernel_rfl
theorem z10 : zeroK Tryz.prog 10 = some [.string ByteArray.empty] := by kernel_rfl
theorem z11 : zeroK Tryz.prog 11 = some [.string ByteArray.empty] := by kernel_rfl
theorem z1196 : zeroK Tryz.prog 115 = some [.slice none 0 0, .slice none 0 0] := by kernel_rfl
theorem z2 : zeroK Tryz.prog 2 = some [.int .i64 0] := by kernel_rfl
theorem z3 : zeroK Tryz.prog 3 = some [.int .i64 0] := by kernel_rfl
theorem z46 : zeroK Tryz.prog 32 = some [.int .i64 0, .int .i64 0, .int .i64 0] := by kernel_rfl
theorem z37 : zeroK Tryz.prog 35 = some [.int .i64 0] := by kernel_rfl
theorem z4 : zeroK Tryz.prog 4 = some [.bool false] := by kernel_rfl
theorem z1080 : zeroK Tryz.prog 44 = some [.int .i64 0, .string ByteArray.empty, .string ByteArray.empty, .int .i64 0, .int .i64 0, .int .i64 0, .string ByteArray.empty] := by kernel_rfl
theorem z5 : zeroK Tryz.prog 5 = some [.int .u8 0] := by kernel_rfl
theorem z6 : zeroK Tryz.prog 6 = some [.int .u8 0] := by kernel_rfl
theorem z2063 : zeroK Tryz.prog 63 = some [.string ByteArray.empty, .string ByteArray.empty, .string ByteArray.empty, .int .i64 0, .int .i64 0, .int .i64 0, .int .i64 0, .int .i64 0, .int .i64 0, .int .i64 0, .int .i64 0] := by kernel_rfl
theorem z1064 : zeroK Tryz.prog 65 = some [.string ByteArray.empty, .string ByteArray.empty, .int .i64 0, .int .i64 0, .int .i64 0] := by kernel_rfl
theorem z2069 : zeroK Tryz.prog 69 = some [.int .i64 0, .int .i64 0, .int .i64 0] := by kernel_rfl
theorem z7 : zeroK Tryz.prog 7 = some [.int .i64 0, .int .i64 0, .bool false, .int .u8 0] := by kernel_rfl
theorem z1072 : zeroK Tryz.prog 74 = some [.int .i64 0, .int .i64 0, .int .i64 0] := by kernel_rfl
theorem z8 : zeroK Tryz.prog 8 = some [.int .i64 0, .int .i64 0, .bool false, .int .u8 0] := by kernel_rfl
theorem z9 : zeroK Tryz.prog 9 = some [.string ByteArray.empty] := by kernel_rfl
end Go.Sim
