/-
  What is proved: facts of the types and the functions, and the structures of the program.
-/
import Derived.Test.YtcpkkolljgpalaaGreatDoorVrA5
set_option linter.unusedSectionVars false
set_option linter.unusedSimpArgs false
set_option linter.unusedVariables false
set_option linter.unnecessarySimpa false
set_option linter.deprecated false
set_option maxRecDepth 10000
namespace Go.Sim
open Go.Proofs
structure S7 where
 x : Int
 y : Int
 signed : Bool
 code : Int
 deriving DecidableEq, Inhabited
abbrev S7.c (x : S7) : List G := [G.int x.x, G.int x.y, G.bool x.signed, G.lit (.int .u8 x.code)]
structure S13 where
 msg : ByteArray
 addr : Int
 deriving DecidableEq, Inhabited
abbrev S13.c (x : S13) : List G := [G.str x.msg, G.lit (.int .u64 x.addr)]
structure S45 where
 fFrom : Int
 fTo : Int
 Days : Int
 deriving DecidableEq, Inhabited
abbrev S45.c (x : S45) : List G := [G.int x.fFrom, G.int x.fTo, G.int x.Days]
structure S67 where
 Year : Int
 Kind : ByteArray
 deriving DecidableEq, Inhabited
abbrev S67.c (x : S67) : List G := [G.int x.Year, G.str x.Kind]
structure S104 where
 Kind : ByteArray
 Name : ByteArray
 Moment : Int
 Move : ByteArray
 fFrom : Int
 fTo : Int
 Cause : ByteArray
 Told : Int
 deriving DecidableEq, Inhabited
abbrev S104.c (x : S104) : List G := [G.str x.Kind, G.str x.Name, G.int x.Moment, G.str x.Move, G.int x.fFrom, G.int x.fTo, G.str x.Cause, G.int x.Told]
structure S2027 where
 Notes : List S104
 Season : S67
 deriving DecidableEq, Inhabited
abbrev S2027.c (x : S2027) : List G := [G.sl 8 (List.map S104.c x.Notes), G.int x.Season.Year, G.str x.Season.Kind]
structure S23 where
 Before : Int
 After : Int
 Notice : Int
 Share : Int
 Causes : List ByteArray
 Off : Int
 Run : Int
 deriving DecidableEq, Inhabited
abbrev S23.c (x : S23) : List G := [G.int x.Before, G.int x.After, G.int x.Notice, G.int x.Share, G.sl 1 (List.map cStr x.Causes), G.int x.Off, G.int x.Run]
structure S115 where
 Name : ByteArray
 Carrier : ByteArray
 Kind : ByteArray
 Terminal : ByteArray
 Partner : ByteArray
 Link : ByteArray
 Period : S45
 Minute : Int
 Seats : Int
 Size : Int
 Noise : Int
 deriving DecidableEq, Inhabited
abbrev S115.c (x : S115) : List G := [G.str x.Name, G.str x.Carrier, G.str x.Kind, G.str x.Terminal, G.str x.Partner, G.str x.Link, G.int x.Period.fFrom, G.int x.Period.fTo, G.int x.Period.Days, G.int x.Minute, G.int x.Seats, G.int x.Size, G.int x.Noise]
structure S131 where
 Name : ByteArray
 Periods : List S45
 deriving DecidableEq, Inhabited
abbrev S131.c (x : S131) : List G := [G.str x.Name, G.sl 3 (List.map S45.c x.Periods)]
structure S55 where
 Flown : Int
 Due : Int
 deriving DecidableEq, Inhabited
abbrev S55.c (x : S55) : List G := [G.int x.Flown, G.int x.Due]
structure S2129 where
 Fact : ByteArray
 Op : ByteArray
 Value : Int
 deriving DecidableEq, Inhabited
abbrev S2129.c (x : S2129) : List G := [G.str x.Fact, G.str x.Op, G.int x.Value]
structure S2127 where
 Fact : ByteArray
 Down : Bool
 deriving DecidableEq, Inhabited
abbrev S2127.c (x : S2127) : List G := [G.str x.Fact, G.bool x.Down]
structure S2133 where
 Name : ByteArray
 When : List S2129
 By : List S2127
 deriving DecidableEq, Inhabited
abbrev S2133.c (x : S2133) : List G := [G.str x.Name, G.sl 3 (List.map S2129.c x.When), G.sl 2 (List.map S2127.c x.By)]
structure S2082 where
 Classes : List S2133
 Pool : Int
 Of : Int
 For : Int
 deriving DecidableEq, Inhabited
abbrev S2082.c (x : S2082) : List G := [G.sl 3 (List.map S2133.c x.Classes), G.int x.Pool, G.int x.Of, G.int x.For]
structure S2085 where
 Request : S115
 Historic : Bool
 Retimed : Bool
 Newcomer : Bool
 Yearround : Bool
 Distance : Int
 deriving DecidableEq, Inhabited
abbrev S2085.c (x : S2085) : List G := [G.str x.Request.Name, G.str x.Request.Carrier, G.str x.Request.Kind, G.str x.Request.Terminal, G.str x.Request.Partner, G.str x.Request.Link, G.int x.Request.Period.fFrom, G.int x.Request.Period.fTo, G.int x.Request.Period.Days, G.int x.Request.Minute, G.int x.Request.Seats, G.int x.Request.Size, G.int x.Request.Noise, G.bool x.Historic, G.bool x.Retimed, G.bool x.Newcomer, G.bool x.Yearround, G.int x.Distance]
structure S2091 where
 Name : ByteArray
 Kind : ByteArray
 Terminal : ByteArray
 Length : Int
 Step : Int
 fFrom : Int
 fTo : Int
 Period : S45
 Most : Int
 deriving DecidableEq, Inhabited
abbrev S2091.c (x : S2091) : List G := [G.str x.Name, G.str x.Kind, G.str x.Terminal, G.int x.Length, G.int x.Step, G.int x.fFrom, G.int x.fTo, G.int x.Period.fFrom, G.int x.Period.fTo, G.int x.Period.Days, G.int x.Most]
structure S2094 where
 Request : S115
 Earliest : Int
 Latest : Int
 Step : Int
 Least : Int
 Most : Int
 deriving DecidableEq, Inhabited
abbrev S2094.c (x : S2094) : List G := [G.str x.Request.Name, G.str x.Request.Carrier, G.str x.Request.Kind, G.str x.Request.Terminal, G.str x.Request.Partner, G.str x.Request.Link, G.int x.Request.Period.fFrom, G.int x.Request.Period.fTo, G.int x.Request.Period.Days, G.int x.Request.Minute, G.int x.Request.Seats, G.int x.Request.Size, G.int x.Request.Noise, G.int x.Earliest, G.int x.Latest, G.int x.Step, G.int x.Least, G.int x.Most]
structure S2097 where
 Name : ByteArray
 Minute : Int
 Granted : Bool
 deriving DecidableEq, Inhabited
abbrev S2097.c (x : S2097) : List G := [G.str x.Name, G.int x.Minute, G.bool x.Granted]
structure S151 where
 Name : ByteArray
 Moment : Int
 Kind : ByteArray
 deriving DecidableEq, Inhabited
abbrev S151.c (x : S151) : List G := [G.str x.Name, G.int x.Moment, G.str x.Kind]
structure S2123 where
 program : S2082
 claims : List S2085
 lots : List Int
 deriving DecidableEq, Inhabited
abbrev S2123.c (x : S2123) : List G := [G.sl 3 (List.map S2133.c x.program.Classes), G.int x.program.Pool, G.int x.program.Of, G.int x.program.For, G.sl 18 (List.map S2085.c x.claims), G.sl 1 (List.map cInt x.lots)]
structure S154 where
 Slot : Int
 Record : Int
 deriving DecidableEq, Inhabited
abbrev S154.c (x : S154) : List G := [G.int x.Slot, G.int x.Record]
structure S1079 where
 Moment : Int
 Kind : ByteArray
 Terminal : ByteArray
 Seats : Int
 Size : Int
 Noise : Int
 Name : ByteArray
 deriving DecidableEq, Inhabited
abbrev S1079.c (x : S1079) : List G := [G.int x.Moment, G.str x.Kind, G.str x.Terminal, G.int x.Seats, G.int x.Size, G.int x.Noise, G.str x.Name]
structure S2204 where
 limit : Int
 begin : Int
 deriving DecidableEq, Inhabited
abbrev S2204.c (x : S2204) : List G := [G.int x.limit, G.int x.begin]
theorem K101 : Known Tryz.prog 32 := ⟨_, Tryz.func32, by kernel_rfl, by kernel_rfl⟩
theorem K102 : Known Tryz.prog 33 := ⟨_, Tryz.func33, by kernel_rfl, by kernel_rfl⟩
theorem K103 : Known Tryz.prog 35 := ⟨_, Tryz.func35, by kernel_rfl, by kernel_rfl⟩
theorem K104 : Known Tryz.prog 18 := ⟨_, Tryz.func18, by kernel_rfl, by kernel_rfl⟩
theorem K106 : Known Tryz.prog 40 := ⟨_, Tryz.func40, by kernel_rfl, by kernel_rfl⟩
theorem K109 : Known Tryz.prog 53 := ⟨_, Tryz.func53, by kernel_rfl, by kernel_rfl⟩
theorem K115 : Known Tryz.prog 81 := ⟨_, Tryz.func81, by kernel_rfl, by kernel_rfl⟩
theorem K121 : Known Tryz.prog 82 := ⟨_, Tryz.func82, by kernel_rfl, by kernel_rfl⟩
theorem K122 : Known Tryz.prog 36 := ⟨_, Tryz.func36, by kernel_rfl, by kernel_rfl⟩
theorem K124 : Known Tryz.prog 37 := ⟨_, Tryz.func37, by kernel_rfl, by kernel_rfl⟩
theorem K126 : Known Tryz.prog 39 := ⟨_, Tryz.func39, by kernel_rfl, by kernel_rfl⟩
theorem K133 : Known Tryz.prog 152 := ⟨_, Tryz.func152, by kernel_rfl, by kernel_rfl⟩
theorem K135 : Known Tryz.prog 46 := ⟨_, Tryz.func46, by kernel_rfl, by kernel_rfl⟩
theorem K136 : Known Tryz.prog 47 := ⟨_, Tryz.func47, by kernel_rfl, by kernel_rfl⟩
theorem K140 : Known Tryz.prog 38 := ⟨_, Tryz.func38, by kernel_rfl, by kernel_rfl⟩
theorem K142 : Known Tryz.prog 145 := ⟨_, Tryz.func145, by kernel_rfl, by kernel_rfl⟩
theorem K147 : Known Tryz.prog 73 := ⟨_, Tryz.func73, by kernel_rfl, by kernel_rfl⟩
theorem K148 : Known Tryz.prog 161 := ⟨_, Tryz.func161, by kernel_rfl, by kernel_rfl⟩
theorem K149 : Known Tryz.prog 163 := ⟨_, Tryz.func163, by kernel_rfl, by kernel_rfl⟩
theorem K150 : Known Tryz.prog 164 := ⟨_, Tryz.func164, by kernel_rfl, by kernel_rfl⟩
theorem K151 : Known Tryz.prog 165 := ⟨_, Tryz.func165, by kernel_rfl, by kernel_rfl⟩
theorem K152 : Known Tryz.prog 50 := ⟨_, Tryz.func50, by kernel_rfl, by kernel_rfl⟩
theorem K153 : Known Tryz.prog 74 := ⟨_, Tryz.func74, by kernel_rfl, by kernel_rfl⟩
theorem K154 : Known Tryz.prog 75 := ⟨_, Tryz.func75, by kernel_rfl, by kernel_rfl⟩
theorem K155 : Known Tryz.prog 76 := ⟨_, Tryz.func76, by kernel_rfl, by kernel_rfl⟩
theorem K157 : Known Tryz.prog 49 := ⟨_, Tryz.func49, by kernel_rfl, by kernel_rfl⟩
theorem K167 : Known Tryz.prog 122 := ⟨_, Tryz.func122, by kernel_rfl, by kernel_rfl⟩
theorem K168 : Known Tryz.prog 144 := ⟨_, Tryz.func144, by kernel_rfl, by kernel_rfl⟩
theorem K170 : Known Tryz.prog 146 := ⟨_, Tryz.func146, by kernel_rfl, by kernel_rfl⟩
theorem K171 : Known Tryz.prog 147 := ⟨_, Tryz.func147, by kernel_rfl, by kernel_rfl⟩
theorem K172 : Known Tryz.prog 148 := ⟨_, Tryz.func148, by kernel_rfl, by kernel_rfl⟩
theorem K173 : Known Tryz.prog 149 := ⟨_, Tryz.func149, by kernel_rfl, by kernel_rfl⟩
theorem K174 : Known Tryz.prog 150 := ⟨_, Tryz.func150, by kernel_rfl, by kernel_rfl⟩
theorem K175 : Known Tryz.prog 151 := ⟨_, Tryz.func151, by kernel_rfl, by kernel_rfl⟩
theorem K176 : Known Tryz.prog 121 := ⟨_, Tryz.func121, by kernel_rfl, by kernel_rfl⟩
theorem K177 : Known Tryz.prog 79 := ⟨_, Tryz.func79, by kernel_rfl, by kernel_rfl⟩
theorem K178 : Known Tryz.prog 80 := ⟨_, Tryz.func80, by kernel_rfl, by kernel_rfl⟩
theorem K180 : Known Tryz.prog 22 := ⟨_, Tryz.func22, by kernel_rfl, by kernel_rfl⟩
theorem K182 : Known Tryz.prog 179 := ⟨_, Tryz.func179, by kernel_rfl, by kernel_rfl⟩
theorem K183 : Known Tryz.prog 206 := ⟨_, Tryz.func206, by kernel_rfl, by kernel_rfl⟩
theorem K187 : Known Tryz.prog 93 := ⟨_, Tryz.func93, by kernel_rfl, by kernel_rfl⟩
theorem K188 : Known Tryz.prog 83 := ⟨_, Tryz.func83, by kernel_rfl, by kernel_rfl⟩
theorem K192 : Known Tryz.prog 23 := ⟨_, Tryz.func23, by kernel_rfl, by kernel_rfl⟩
theorem K2005 : Known Tryz.prog 5 := ⟨_, Tryz.func5, by kernel_rfl, by kernel_rfl⟩
theorem K2007 : Known Tryz.prog 7 := ⟨_, Tryz.func7, by kernel_rfl, by kernel_rfl⟩
theorem K2012 : Known Tryz.prog 12 := ⟨_, Tryz.func12, by kernel_rfl, by kernel_rfl⟩
theorem K2019 : Known Tryz.prog 19 := ⟨_, Tryz.func19, by kernel_rfl, by kernel_rfl⟩
theorem K202 : Known Tryz.prog 196 := ⟨_, Tryz.func196, by kernel_rfl, by kernel_rfl⟩
theorem K2021 : Known Tryz.prog 21 := ⟨_, Tryz.func21, by kernel_rfl, by kernel_rfl⟩
theorem K203 : Known Tryz.prog 203 := ⟨_, Tryz.func203, by kernel_rfl, by kernel_rfl⟩
theorem K204 : Known Tryz.prog 204 := ⟨_, Tryz.func204, by kernel_rfl, by kernel_rfl⟩
theorem K205 : Known Tryz.prog 205 := ⟨_, Tryz.func205, by kernel_rfl, by kernel_rfl⟩
theorem K2052 : Known Tryz.prog 52 := ⟨_, Tryz.func52, by kernel_rfl, by kernel_rfl⟩
theorem K206 : Known Tryz.prog 140 := ⟨_, Tryz.func140, by kernel_rfl, by kernel_rfl⟩
theorem K207 : Known Tryz.prog 141 := ⟨_, Tryz.func141, by kernel_rfl, by kernel_rfl⟩
theorem K208 : Known Tryz.prog 142 := ⟨_, Tryz.func142, by kernel_rfl, by kernel_rfl⟩
theorem K209 : Known Tryz.prog 143 := ⟨_, Tryz.func143, by kernel_rfl, by kernel_rfl⟩
theorem K23 : Known Tryz.prog 43 := ⟨_, Tryz.func43, by kernel_rfl, by kernel_rfl⟩
theorem K233 : Known Tryz.prog 245 := ⟨_, Tryz.func245, by kernel_rfl, by kernel_rfl⟩
theorem K234 : Known Tryz.prog 246 := ⟨_, Tryz.func246, by kernel_rfl, by kernel_rfl⟩
theorem K242 : Known Tryz.prog 202 := ⟨_, Tryz.func202, by kernel_rfl, by kernel_rfl⟩
theorem K25 : Known Tryz.prog 78 := ⟨_, Tryz.func78, by kernel_rfl, by kernel_rfl⟩
theorem K252 : Known Tryz.prog 215 := ⟨_, Tryz.func215, by kernel_rfl, by kernel_rfl⟩
theorem K253 : Known Tryz.prog 286 := ⟨_, Tryz.func286, by kernel_rfl, by kernel_rfl⟩
theorem K27 : Known Tryz.prog 45 := ⟨_, Tryz.func45, by kernel_rfl, by kernel_rfl⟩
theorem K29 : Known Tryz.prog 10 := ⟨_, Tryz.func10, by kernel_rfl, by kernel_rfl⟩
theorem K40 : Known Tryz.prog 24 := ⟨_, Tryz.func24, by kernel_rfl, by kernel_rfl⟩
theorem K58 : Known Tryz.prog 20 := ⟨_, Tryz.func20, by kernel_rfl, by kernel_rfl⟩
theorem K69 : Known Tryz.prog 16 := ⟨_, Tryz.func16, by kernel_rfl, by kernel_rfl⟩
theorem K72 : Known Tryz.prog 11 := ⟨_, Tryz.func11, by kernel_rfl, by kernel_rfl⟩
theorem K83 : Known Tryz.prog 17 := ⟨_, Tryz.func17, by kernel_rfl, by kernel_rfl⟩
theorem K84 : Known Tryz.prog 30 := ⟨_, Tryz.func30, by kernel_rfl, by kernel_rfl⟩
theorem K85 : Known Tryz.prog 34 := ⟨_, Tryz.func34, by kernel_rfl, by kernel_rfl⟩
theorem K86 : Known Tryz.prog 72 := ⟨_, Tryz.func72, by kernel_rfl, by kernel_rfl⟩
theorem K87 : Known Tryz.prog 31 := ⟨_, Tryz.func31, by kernel_rfl, by kernel_rfl⟩
theorem K88 : Known Tryz.prog 87 := ⟨_, Tryz.func87, by kernel_rfl, by kernel_rfl⟩
theorem K90 : Known Tryz.prog 25 := ⟨_, Tryz.func25, by kernel_rfl, by kernel_rfl⟩
theorem K93 : Known Tryz.prog 138 := ⟨_, Tryz.func138, by kernel_rfl, by kernel_rfl⟩
theorem K94 : Known Tryz.prog 139 := ⟨_, Tryz.func139, by kernel_rfl, by kernel_rfl⟩
theorem K98 : Known Tryz.prog 90 := ⟨_, Tryz.func90, by kernel_rfl, by kernel_rfl⟩
theorem K99 : Known Tryz.prog 91 := ⟨_, Tryz.func91, by kernel_rfl, by kernel_rfl⟩
theorem app170 : appK Tryz.prog 156 = some (40, 1, 8) := by kernel_rfl
theorem app79 : appK Tryz.prog 163 = some (167, 2, 16) := by kernel_rfl
theorem app26 : appK Tryz.prog 24 = some (35, 8, 96) := by kernel_rfl
theorem app25 : appK Tryz.prog 39 = some (110, 3, 40) := by kernel_rfl
theorem app82 : appK Tryz.prog 64 = some (3, 1, 8) := by kernel_rfl
theorem fl152_0 : fieldK Tryz.prog 110 0 = some (0, 1, false) := by kernel_rfl
theorem fl152_1 : fieldK Tryz.prog 110 1 = some (1, 1, false) := by kernel_rfl
theorem fl152_2 : fieldK Tryz.prog 110 2 = some (2, 1, false) := by kernel_rfl
theorem fl155_0 : fieldK Tryz.prog 167 0 = some (0, 1, false) := by kernel_rfl
theorem fl46_0 : fieldK Tryz.prog 23 0 = some (0, 1, false) := by kernel_rfl
theorem fl46_1 : fieldK Tryz.prog 23 1 = some (1, 1, false) := by kernel_rfl
theorem fl46_2 : fieldK Tryz.prog 23 2 = some (2, 1, false) := by kernel_rfl
theorem fl105_0 : fieldK Tryz.prog 35 0 = some (0, 1, false) := by kernel_rfl
theorem fl105_1 : fieldK Tryz.prog 35 1 = some (1, 1, false) := by kernel_rfl
theorem fl105_2 : fieldK Tryz.prog 35 2 = some (2, 1, false) := by kernel_rfl
theorem fl105_3 : fieldK Tryz.prog 35 3 = some (3, 1, false) := by kernel_rfl
theorem fl105_4 : fieldK Tryz.prog 35 4 = some (4, 1, false) := by kernel_rfl
theorem fl105_5 : fieldK Tryz.prog 35 5 = some (5, 1, false) := by kernel_rfl
theorem fl105_6 : fieldK Tryz.prog 35 6 = some (6, 1, false) := by kernel_rfl
theorem fl105_7 : fieldK Tryz.prog 35 7 = some (7, 1, false) := by kernel_rfl
theorem fl24_0 : fieldK Tryz.prog 47 0 = some (0, 1, false) := by kernel_rfl
theorem fl24_1 : fieldK Tryz.prog 47 1 = some (1, 1, false) := by kernel_rfl
theorem fl24_2 : fieldK Tryz.prog 47 2 = some (2, 1, false) := by kernel_rfl
theorem fl24_3 : fieldK Tryz.prog 47 3 = some (3, 1, false) := by kernel_rfl
theorem fl24_4 : fieldK Tryz.prog 47 4 = some (4, 1, false) := by kernel_rfl
theorem fl24_5 : fieldK Tryz.prog 47 5 = some (5, 1, false) := by kernel_rfl
theorem fl24_6 : fieldK Tryz.prog 47 6 = some (6, 1, false) := by kernel_rfl
theorem fl56_0 : fieldK Tryz.prog 71 0 = some (0, 1, false) := by kernel_rfl
theorem fl56_1 : fieldK Tryz.prog 71 1 = some (1, 1, false) := by kernel_rfl
theorem pl152 : placesK Tryz.prog 110 = some [(0, 1), (1, 1), (2, 1)] := by kernel_rfl
theorem pl155 : placesK Tryz.prog 167 = some [(0, 1), (1, 1)] := by kernel_rfl
theorem pl46 : placesK Tryz.prog 23 = some [(0, 1), (1, 1), (2, 1)] := by kernel_rfl
theorem pl105 : placesK Tryz.prog 35 = some [(0, 1), (1, 1), (2, 1), (3, 1), (4, 1), (5, 1), (6, 1), (7, 1)] := by kernel_rfl
theorem pl24 : placesK Tryz.prog 47 = some [(0, 1), (1, 1), (2, 1), (3, 1), (4, 1), (5, 1), (6, 1)] := by kernel_rfl
theorem pl56 : placesK Tryz.prog 71 = some [(0, 1), (1, 1)] := by kernel_rfl
theorem ty218 : tyK Tryz.prog 106 = some (14, true) := by kernel_rfl
theorem ty152 : tyK Tryz.prog 110 = some (3, true) := by kernel_rfl
theorem ty155 : tyK Tryz.prog 167 = some (2, true) := by kernel_rfl
theorem ty46 : tyK Tryz.prog 23 = some (3, true) := by kernel_rfl
theorem ty3 : tyK Tryz.prog 3 = some (1, false) := by kernel_rfl
theorem ty105 : tyK Tryz.prog 35 = some (8, true) := by kernel_rfl
theorem ty25 : tyK Tryz.prog 39 = some (1, false) := by kernel_rfl
theorem ty37 : tyK Tryz.prog 40 = some (1, false) := by kernel_rfl
theorem ty22 : tyK Tryz.prog 45 = some (1, false) := by kernel_rfl
theorem ty24 : tyK Tryz.prog 47 = some (7, true) := by kernel_rfl
theorem ty2062 : tyK Tryz.prog 62 = some (1, false) := by kernel_rfl
theorem ty56 : tyK Tryz.prog 71 = some (2, true) := by kernel_rfl
theorem ty9 : tyK Tryz.prog 9 = some (1, false) := by kernel_rfl
theorem z218 : zeroK Tryz.prog 106 = some [.int .i64 0, .int .i64 0, .int .i64 0, .int .i64 0, .int .i64 0, .int .i64 0, .int .i64 0, .int .i64 0, .int .i64 0, .int .i64 0, .int .i64 0, .int .i64 0, .int .i64 0, .int .i64 0] := by kernel_rfl
theorem z152 : zeroK Tryz.prog 110 = some [.string ByteArray.empty, .int .i64 0, .string ByteArray.empty] := by kernel_rfl
theorem z155 : zeroK Tryz.prog 167 = some [.int .i64 0, .int .i64 0] := by kernel_rfl
theorem z46 : zeroK Tryz.prog 23 = some [.int .i64 0, .int .i64 0, .int .i64 0] := by kernel_rfl
theorem z3 : zeroK Tryz.prog 3 = some [.int .i64 0] := by kernel_rfl
theorem z105 : zeroK Tryz.prog 35 = some [.string ByteArray.empty, .string ByteArray.empty, .int .i64 0, .string ByteArray.empty, .int .i64 0, .int .i64 0, .string ByteArray.empty, .int .i64 0] := by kernel_rfl
theorem z37 : zeroK Tryz.prog 40 = some [.int .i64 0] := by kernel_rfl
theorem z24 : zeroK Tryz.prog 47 = some [.int .i64 0, .int .i64 0, .int .i64 0, .int .i64 0, .slice none 0 0, .int .i64 0, .int .i64 0] := by kernel_rfl
theorem z56 : zeroK Tryz.prog 71 = some [.int .i64 0, .int .i64 0] := by kernel_rfl
theorem z9 : zeroK Tryz.prog 9 = some [.string ByteArray.empty] := by kernel_rfl
theorem flat152 : flatK Tryz.prog 60 110 = some [.str, .int .i64, .str] ∧ structB Tryz.prog 110 = true ∧ Tryz.prog.eqGuardType Tryz.prog.depth 110 = false := ⟨by kernel_rfl, by kernel_rfl, by kernel_rfl⟩
theorem flat56 : flatK Tryz.prog 60 71 = some [.int .i64, .int .i64] ∧ structB Tryz.prog 71 = true ∧ Tryz.prog.eqGuardType Tryz.prog.depth 71 = false := ⟨by kernel_rfl, by kernel_rfl, by kernel_rfl⟩
theorem mk82 : mkK Tryz.prog 64 = some (3, 1, 8, [.int .i64 0]) := by kernel_rfl
theorem zr4 : (Tryz.prog.info? 4).bind (·.zero) = some (.bool false) := by kernel_rfl
end Go.Sim
