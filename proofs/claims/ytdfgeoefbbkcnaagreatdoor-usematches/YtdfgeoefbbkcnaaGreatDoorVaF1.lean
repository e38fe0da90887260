/-
  What is proved: facts of the types and the functions, and the structures of the program.
-/
import Derived.Test.YtdfgeoefbbkcnaaGreatDoorVaA4
set_option linter.unusedSectionVars false
set_option linter.unusedSimpArgs false
set_option linter.unusedVariables false
set_option linter.unnecessarySimpa false
set_option linter.deprecated false
set_option linter.unusedSimpArgs false
set_option linter.unusedVariables false
set_option maxRecDepth 10000
namespace Go.Sim
open Go.Proofs
structure S7 where
  x : Int
  y : Int
  signed : Bool
  code : Int
  deriving DecidableEq, Inhabited
abbrev S7.c (x : S7) : List G := [G.int x.x, G.int x.y, G.bool x.signed, G.lit (.int .u8 x.code)]

structure S13 where
  msg : ByteArray
  addr : Int
  deriving DecidableEq, Inhabited
abbrev S13.c (x : S13) : List G := [G.str x.msg, G.lit (.int .u64 x.addr)]

structure S23 where
  Before : Int
  After : Int
  Notice : Int
  Share : Int
  Causes : List ByteArray
  Off : Int
  Run : Int
  deriving DecidableEq, Inhabited
abbrev S23.c (x : S23) : List G := [G.int x.Before, G.int x.After, G.int x.Notice, G.int x.Share, G.sl 1 (List.map cStr x.Causes), G.int x.Off, G.int x.Run]

structure S45 where
  fFrom : Int
  fTo : Int
  Days : Int
  deriving DecidableEq, Inhabited
abbrev S45.c (x : S45) : List G := [G.int x.fFrom, G.int x.fTo, G.int x.Days]

structure S47 where
  Name : ByteArray
  Kind : ByteArray
  Period : S45
  Minute : Int
  deriving DecidableEq, Inhabited
abbrev S47.c (x : S47) : List G := [G.str x.Name, G.str x.Kind, G.int x.Period.fFrom, G.int x.Period.fTo, G.int x.Period.Days, G.int x.Minute]

structure S55 where
  Flown : Int
  Due : Int
  deriving DecidableEq, Inhabited
abbrev S55.c (x : S55) : List G := [G.int x.Flown, G.int x.Due]

structure S67 where
  Year : Int
  Kind : ByteArray
  deriving DecidableEq, Inhabited
abbrev S67.c (x : S67) : List G := [G.int x.Year, G.str x.Kind]

structure S104 where
  Kind : ByteArray
  Name : ByteArray
  Moment : Int
  Move : ByteArray
  fFrom : Int
  fTo : Int
  Cause : ByteArray
  Told : Int
  deriving DecidableEq, Inhabited
abbrev S104.c (x : S104) : List G := [G.str x.Kind, G.str x.Name, G.int x.Moment, G.str x.Move, G.int x.fFrom, G.int x.fTo, G.str x.Cause, G.int x.Told]

structure S110 where
  Name : ByteArray
  Ratio : S55
  Kept : Bool
  deriving DecidableEq, Inhabited
abbrev S110.c (x : S110) : List G := [G.str x.Name, G.int x.Ratio.Flown, G.int x.Ratio.Due, G.bool x.Kept]

structure S115 where
  Name : ByteArray
  Carrier : ByteArray
  Kind : ByteArray
  Terminal : ByteArray
  Partner : ByteArray
  Link : ByteArray
  Period : S45
  Minute : Int
  Seats : Int
  Size : Int
  Noise : Int
  deriving DecidableEq, Inhabited
abbrev S115.c (x : S115) : List G := [G.str x.Name, G.str x.Carrier, G.str x.Kind, G.str x.Terminal, G.str x.Partner, G.str x.Link, G.int x.Period.fFrom, G.int x.Period.fTo, G.int x.Period.Days, G.int x.Minute, G.int x.Seats, G.int x.Size, G.int x.Noise]

structure S113 where
  Requests : List S115
  Season : S67
  deriving DecidableEq, Inhabited
abbrev S113.c (x : S113) : List G := [G.sl 13 (List.map S115.c x.Requests), G.int x.Season.Year, G.str x.Season.Kind]

structure S131 where
  Name : ByteArray
  Periods : List S45
  deriving DecidableEq, Inhabited
abbrev S131.c (x : S131) : List G := [G.str x.Name, G.sl 3 (List.map S45.c x.Periods)]

structure S137 where
  Name : ByteArray
  Ratio : S55
  Kept : Bool
  deriving DecidableEq, Inhabited
abbrev S137.c (x : S137) : List G := [G.str x.Name, G.int x.Ratio.Flown, G.int x.Ratio.Due, G.bool x.Kept]

structure S139 where
  Slots : List Int
  Records : List Int
  deriving DecidableEq, Inhabited
abbrev S139.c (x : S139) : List G := [G.sl 1 (List.map cInt x.Slots), G.sl 1 (List.map cInt x.Records)]

structure S151 where
  Name : ByteArray
  Moment : Int
  Kind : ByteArray
  deriving DecidableEq, Inhabited
abbrev S151.c (x : S151) : List G := [G.str x.Name, G.int x.Moment, G.str x.Kind]

structure S154 where
  Slot : Int
  Record : Int
  deriving DecidableEq, Inhabited
abbrev S154.c (x : S154) : List G := [G.int x.Slot, G.int x.Record]

structure S141 where
  Slots : List S151
  Records : List S151
  Pairs : List S154
  Cover : S139
  deriving DecidableEq, Inhabited
abbrev S141.c (x : S141) : List G := [G.sl 3 (List.map S151.c x.Slots), G.sl 3 (List.map S151.c x.Records), G.sl 2 (List.map S154.c x.Pairs), G.sl 1 (List.map cInt x.Cover.Slots), G.sl 1 (List.map cInt x.Cover.Records)]

theorem K10 : Known Tryz.prog 10 := ⟨_, Tryz.func10, by kernel_rfl, by kernel_rfl⟩
theorem K100 : Known Tryz.prog 100 := ⟨_, Tryz.func100, by kernel_rfl, by kernel_rfl⟩
theorem K101 : Known Tryz.prog 101 := ⟨_, Tryz.func101, by kernel_rfl, by kernel_rfl⟩
theorem K102 : Known Tryz.prog 102 := ⟨_, Tryz.func102, by kernel_rfl, by kernel_rfl⟩
theorem K103 : Known Tryz.prog 103 := ⟨_, Tryz.func103, by kernel_rfl, by kernel_rfl⟩
theorem K104 : Known Tryz.prog 104 := ⟨_, Tryz.func104, by kernel_rfl, by kernel_rfl⟩
theorem K105 : Known Tryz.prog 105 := ⟨_, Tryz.func105, by kernel_rfl, by kernel_rfl⟩
theorem K106 : Known Tryz.prog 106 := ⟨_, Tryz.func106, by kernel_rfl, by kernel_rfl⟩
theorem K107 : Known Tryz.prog 107 := ⟨_, Tryz.func107, by kernel_rfl, by kernel_rfl⟩
theorem K108 : Known Tryz.prog 108 := ⟨_, Tryz.func108, by kernel_rfl, by kernel_rfl⟩
theorem K109 : Known Tryz.prog 109 := ⟨_, Tryz.func109, by kernel_rfl, by kernel_rfl⟩
theorem K11 : Known Tryz.prog 11 := ⟨_, Tryz.func11, by kernel_rfl, by kernel_rfl⟩
theorem K110 : Known Tryz.prog 110 := ⟨_, Tryz.func110, by kernel_rfl, by kernel_rfl⟩
theorem K111 : Known Tryz.prog 111 := ⟨_, Tryz.func111, by kernel_rfl, by kernel_rfl⟩
theorem K112 : Known Tryz.prog 112 := ⟨_, Tryz.func112, by kernel_rfl, by kernel_rfl⟩
theorem K113 : Known Tryz.prog 113 := ⟨_, Tryz.func113, by kernel_rfl, by kernel_rfl⟩
theorem K114 : Known Tryz.prog 114 := ⟨_, Tryz.func114, by kernel_rfl, by kernel_rfl⟩
theorem K115 : Known Tryz.prog 115 := ⟨_, Tryz.func115, by kernel_rfl, by kernel_rfl⟩
theorem K116 : Known Tryz.prog 116 := ⟨_, Tryz.func116, by kernel_rfl, by kernel_rfl⟩
theorem K117 : Known Tryz.prog 117 := ⟨_, Tryz.func117, by kernel_rfl, by kernel_rfl⟩
theorem K118 : Known Tryz.prog 118 := ⟨_, Tryz.func118, by kernel_rfl, by kernel_rfl⟩
theorem K119 : Known Tryz.prog 119 := ⟨_, Tryz.func119, by kernel_rfl, by kernel_rfl⟩
theorem K12 : Known Tryz.prog 12 := ⟨_, Tryz.func12, by kernel_rfl, by kernel_rfl⟩
theorem K120 : Known Tryz.prog 120 := ⟨_, Tryz.func120, by kernel_rfl, by kernel_rfl⟩
theorem K121 : Known Tryz.prog 121 := ⟨_, Tryz.func121, by kernel_rfl, by kernel_rfl⟩
theorem K122 : Known Tryz.prog 122 := ⟨_, Tryz.func122, by kernel_rfl, by kernel_rfl⟩
theorem K123 : Known Tryz.prog 123 := ⟨_, Tryz.func123, by kernel_rfl, by kernel_rfl⟩
theorem K124 : Known Tryz.prog 124 := ⟨_, Tryz.func124, by kernel_rfl, by kernel_rfl⟩
theorem K125 : Known Tryz.prog 125 := ⟨_, Tryz.func125, by kernel_rfl, by kernel_rfl⟩
theorem K126 : Known Tryz.prog 126 := ⟨_, Tryz.func126, by kernel_rfl, by kernel_rfl⟩
theorem K127 : Known Tryz.prog 127 := ⟨_, Tryz.func127, by kernel_rfl, by kernel_rfl⟩
theorem K128 : Known Tryz.prog 128 := ⟨_, Tryz.func128, by kernel_rfl, by kernel_rfl⟩
theorem K129 : Known Tryz.prog 129 := ⟨_, Tryz.func129, by kernel_rfl, by kernel_rfl⟩
theorem K13 : Known Tryz.prog 13 := ⟨_, Tryz.func13, by kernel_rfl, by kernel_rfl⟩
theorem K130 : Known Tryz.prog 130 := ⟨_, Tryz.func130, by kernel_rfl, by kernel_rfl⟩
theorem K131 : Known Tryz.prog 131 := ⟨_, Tryz.func131, by kernel_rfl, by kernel_rfl⟩
theorem K132 : Known Tryz.prog 132 := ⟨_, Tryz.func132, by kernel_rfl, by kernel_rfl⟩
theorem K133 : Known Tryz.prog 133 := ⟨_, Tryz.func133, by kernel_rfl, by kernel_rfl⟩
theorem K134 : Known Tryz.prog 134 := ⟨_, Tryz.func134, by kernel_rfl, by kernel_rfl⟩
theorem K135 : Known Tryz.prog 135 := ⟨_, Tryz.func135, by kernel_rfl, by kernel_rfl⟩
theorem K136 : Known Tryz.prog 136 := ⟨_, Tryz.func136, by kernel_rfl, by kernel_rfl⟩
theorem K137 : Known Tryz.prog 137 := ⟨_, Tryz.func137, by kernel_rfl, by kernel_rfl⟩
theorem K138 : Known Tryz.prog 138 := ⟨_, Tryz.func138, by kernel_rfl, by kernel_rfl⟩
theorem K139 : Known Tryz.prog 139 := ⟨_, Tryz.func139, by kernel_rfl, by kernel_rfl⟩
theorem K14 : Known Tryz.prog 14 := ⟨_, Tryz.func14, by kernel_rfl, by kernel_rfl⟩
theorem K140 : Known Tryz.prog 140 := ⟨_, Tryz.func140, by kernel_rfl, by kernel_rfl⟩
theorem K141 : Known Tryz.prog 141 := ⟨_, Tryz.func141, by kernel_rfl, by kernel_rfl⟩
theorem K142 : Known Tryz.prog 142 := ⟨_, Tryz.func142, by kernel_rfl, by kernel_rfl⟩
theorem K143 : Known Tryz.prog 143 := ⟨_, Tryz.func143, by kernel_rfl, by kernel_rfl⟩
theorem K144 : Known Tryz.prog 144 := ⟨_, Tryz.func144, by kernel_rfl, by kernel_rfl⟩
theorem K145 : Known Tryz.prog 145 := ⟨_, Tryz.func145, by kernel_rfl, by kernel_rfl⟩
theorem K146 : Known Tryz.prog 146 := ⟨_, Tryz.func146, by kernel_rfl, by kernel_rfl⟩
theorem K147 : Known Tryz.prog 147 := ⟨_, Tryz.func147, by kernel_rfl, by kernel_rfl⟩
theorem K148 : Known Tryz.prog 148 := ⟨_, Tryz.func148, by kernel_rfl, by kernel_rfl⟩
theorem K149 : Known Tryz.prog 149 := ⟨_, Tryz.func149, by kernel_rfl, by kernel_rfl⟩
theorem K15 : Known Tryz.prog 15 := ⟨_, Tryz.func15, by kernel_rfl, by kernel_rfl⟩
theorem K150 : Known Tryz.prog 150 := ⟨_, Tryz.func150, by kernel_rfl, by kernel_rfl⟩
theorem K151 : Known Tryz.prog 151 := ⟨_, Tryz.func151, by kernel_rfl, by kernel_rfl⟩
theorem K152 : Known Tryz.prog 152 := ⟨_, Tryz.func152, by kernel_rfl, by kernel_rfl⟩
theorem K153 : Known Tryz.prog 153 := ⟨_, Tryz.func153, by kernel_rfl, by kernel_rfl⟩
theorem K154 : Known Tryz.prog 154 := ⟨_, Tryz.func154, by kernel_rfl, by kernel_rfl⟩
theorem K155 : Known Tryz.prog 155 := ⟨_, Tryz.func155, by kernel_rfl, by kernel_rfl⟩
theorem K156 : Known Tryz.prog 156 := ⟨_, Tryz.func156, by kernel_rfl, by kernel_rfl⟩
theorem K157 : Known Tryz.prog 157 := ⟨_, Tryz.func157, by kernel_rfl, by kernel_rfl⟩
theorem K158 : Known Tryz.prog 158 := ⟨_, Tryz.func158, by kernel_rfl, by kernel_rfl⟩
theorem K159 : Known Tryz.prog 159 := ⟨_, Tryz.func159, by kernel_rfl, by kernel_rfl⟩
theorem K16 : Known Tryz.prog 16 := ⟨_, Tryz.func16, by kernel_rfl, by kernel_rfl⟩
theorem K160 : Known Tryz.prog 160 := ⟨_, Tryz.func160, by kernel_rfl, by kernel_rfl⟩
theorem K161 : Known Tryz.prog 161 := ⟨_, Tryz.func161, by kernel_rfl, by kernel_rfl⟩
theorem K162 : Known Tryz.prog 162 := ⟨_, Tryz.func162, by kernel_rfl, by kernel_rfl⟩
theorem K163 : Known Tryz.prog 163 := ⟨_, Tryz.func163, by kernel_rfl, by kernel_rfl⟩
theorem K164 : Known Tryz.prog 164 := ⟨_, Tryz.func164, by kernel_rfl, by kernel_rfl⟩
theorem K165 : Known Tryz.prog 165 := ⟨_, Tryz.func165, by kernel_rfl, by kernel_rfl⟩
theorem K166 : Known Tryz.prog 166 := ⟨_, Tryz.func166, by kernel_rfl, by kernel_rfl⟩
theorem K167 : Known Tryz.prog 167 := ⟨_, Tryz.func167, by kernel_rfl, by kernel_rfl⟩
theorem K168 : Known Tryz.prog 168 := ⟨_, Tryz.func168, by kernel_rfl, by kernel_rfl⟩
theorem K169 : Known Tryz.prog 169 := ⟨_, Tryz.func169, by kernel_rfl, by kernel_rfl⟩
theorem K17 : Known Tryz.prog 17 := ⟨_, Tryz.func17, by kernel_rfl, by kernel_rfl⟩
theorem K170 : Known Tryz.prog 170 := ⟨_, Tryz.func170, by kernel_rfl, by kernel_rfl⟩
theorem K171 : Known Tryz.prog 171 := ⟨_, Tryz.func171, by kernel_rfl, by kernel_rfl⟩
theorem K172 : Known Tryz.prog 172 := ⟨_, Tryz.func172, by kernel_rfl, by kernel_rfl⟩
theorem K173 : Known Tryz.prog 173 := ⟨_, Tryz.func173, by kernel_rfl, by kernel_rfl⟩
theorem K174 : Known Tryz.prog 174 := ⟨_, Tryz.func174, by kernel_rfl, by kernel_rfl⟩
theorem K175 : Known Tryz.prog 175 := ⟨_, Tryz.func175, by kernel_rfl, by kernel_rfl⟩
theorem K176 : Known Tryz.prog 176 := ⟨_, Tryz.func176, by kernel_rfl, by kernel_rfl⟩
theorem K177 : Known Tryz.prog 177 := ⟨_, Tryz.func177, by kernel_rfl, by kernel_rfl⟩
theorem K178 : Known Tryz.prog 178 := ⟨_, Tryz.func178, by kernel_rfl, by kernel_rfl⟩
theorem K179 : Known Tryz.prog 179 := ⟨_, Tryz.func179, by kernel_rfl, by kernel_rfl⟩
theorem K18 : Known Tryz.prog 18 := ⟨_, Tryz.func18, by kernel_rfl, by kernel_rfl⟩
theorem K180 : Known Tryz.prog 180 := ⟨_, Tryz.func180, by kernel_rfl, by kernel_rfl⟩
theorem K181 : Known Tryz.prog 181 := ⟨_, Tryz.func181, by kernel_rfl, by kernel_rfl⟩
theorem K182 : Known Tryz.prog 182 := ⟨_, Tryz.func182, by kernel_rfl, by kernel_rfl⟩
theorem K183 : Known Tryz.prog 183 := ⟨_, Tryz.func183, by kernel_rfl, by kernel_rfl⟩
theorem K184 : Known Tryz.prog 184 := ⟨_, Tryz.func184, by kernel_rfl, by kernel_rfl⟩
theorem K185 : Known Tryz.prog 185 := ⟨_, Tryz.func185, by kernel_rfl, by kernel_rfl⟩
theorem K186 : Known Tryz.prog 186 := ⟨_, Tryz.func186, by kernel_rfl, by kernel_rfl⟩
theorem K187 : Known Tryz.prog 187 := ⟨_, Tryz.func187, by kernel_rfl, by kernel_rfl⟩
theorem K188 : Known Tryz.prog 188 := ⟨_, Tryz.func188, by kernel_rfl, by kernel_rfl⟩
theorem K189 : Known Tryz.prog 189 := ⟨_, Tryz.func189, by kernel_rfl, by kernel_rfl⟩
theorem K19 : Known Tryz.prog 19 := ⟨_, Tryz.func19, by kernel_rfl, by kernel_rfl⟩
theorem K190 : Known Tryz.prog 190 := ⟨_, Tryz.func190, by kernel_rfl, by kernel_rfl⟩
theorem K191 : Known Tryz.prog 191 := ⟨_, Tryz.func191, by kernel_rfl, by kernel_rfl⟩
theorem K192 : Known Tryz.prog 192 := ⟨_, Tryz.func192, by kernel_rfl, by kernel_rfl⟩
theorem K193 : Known Tryz.prog 193 := ⟨_, Tryz.func193, by kernel_rfl, by kernel_rfl⟩
theorem K194 : Known Tryz.prog 194 := ⟨_, Tryz.func194, by kernel_rfl, by kernel_rfl⟩
theorem K195 : Known Tryz.prog 195 := ⟨_, Tryz.func195, by kernel_rfl, by kernel_rfl⟩
theorem K196 : Known Tryz.prog 196 := ⟨_, Tryz.func196, by kernel_rfl, by kernel_rfl⟩
theorem K197 : Known Tryz.prog 197 := ⟨_, Tryz.func197, by kernel_rfl, by kernel_rfl⟩
theorem K198 : Known Tryz.prog 198 := ⟨_, Tryz.func198, by kernel_rfl, by kernel_rfl⟩
theorem K199 : Known Tryz.prog 199 := ⟨_, Tryz.func199, by kernel_rfl, by kernel_rfl⟩
theorem K2 : Known Tryz.prog 2 := ⟨_, Tryz.func2, by kernel_rfl, by kernel_rfl⟩
theorem K20 : Known Tryz.prog 20 := ⟨_, Tryz.func20, by kernel_rfl, by kernel_rfl⟩
theorem K200 : Known Tryz.prog 200 := ⟨_, Tryz.func200, by kernel_rfl, by kernel_rfl⟩
theorem K201 : Known Tryz.prog 201 := ⟨_, Tryz.func201, by kernel_rfl, by kernel_rfl⟩
theorem K202 : Known Tryz.prog 202 := ⟨_, Tryz.func202, by kernel_rfl, by kernel_rfl⟩
theorem K203 : Known Tryz.prog 203 := ⟨_, Tryz.func203, by kernel_rfl, by kernel_rfl⟩
theorem K204 : Known Tryz.prog 204 := ⟨_, Tryz.func204, by kernel_rfl, by kernel_rfl⟩
theorem K205 : Known Tryz.prog 205 := ⟨_, Tryz.func205, by kernel_rfl, by kernel_rfl⟩
theorem K206 : Known Tryz.prog 206 := ⟨_, Tryz.func206, by kernel_rfl, by kernel_rfl⟩
theorem K207 : Known Tryz.prog 207 := ⟨_, Tryz.func207, by kernel_rfl, by kernel_rfl⟩
theorem K208 : Known Tryz.prog 208 := ⟨_, Tryz.func208, by kernel_rfl, by kernel_rfl⟩
theorem K209 : Known Tryz.prog 209 := ⟨_, Tryz.func209, by kernel_rfl, by kernel_rfl⟩
theorem K21 : Known Tryz.prog 21 := ⟨_, Tryz.func21, by kernel_rfl, by kernel_rfl⟩
theorem K210 : Known Tryz.prog 210 := ⟨_, Tryz.func210, by kernel_rfl, by kernel_rfl⟩
theorem K211 : Known Tryz.prog 211 := ⟨_, Tryz.func211, by kernel_rfl, by kernel_rfl⟩
theorem K212 : Known Tryz.prog 212 := ⟨_, Tryz.func212, by kernel_rfl, by kernel_rfl⟩
theorem K213 : Known Tryz.prog 213 := ⟨_, Tryz.func213, by kernel_rfl, by kernel_rfl⟩
theorem K214 : Known Tryz.prog 214 := ⟨_, Tryz.func214, by kernel_rfl, by kernel_rfl⟩
theorem K215 : Known Tryz.prog 215 := ⟨_, Tryz.func215, by kernel_rfl, by kernel_rfl⟩
theorem K216 : Known Tryz.prog 216 := ⟨_, Tryz.func216, by kernel_rfl, by kernel_rfl⟩
theorem K217 : Known Tryz.prog 217 := ⟨_, Tryz.func217, by kernel_rfl, by kernel_rfl⟩
theorem K218 : Known Tryz.prog 218 := ⟨_, Tryz.func218, by kernel_rfl, by kernel_rfl⟩
theorem K219 : Known Tryz.prog 219 := ⟨_, Tryz.func219, by kernel_rfl, by kernel_rfl⟩
theorem K22 : Known Tryz.prog 22 := ⟨_, Tryz.func22, by kernel_rfl, by kernel_rfl⟩
theorem K220 : Known Tryz.prog 220 := ⟨_, Tryz.func220, by kernel_rfl, by kernel_rfl⟩
theorem K221 : Known Tryz.prog 221 := ⟨_, Tryz.func221, by kernel_rfl, by kernel_rfl⟩
theorem K222 : Known Tryz.prog 222 := ⟨_, Tryz.func222, by kernel_rfl, by kernel_rfl⟩
theorem K223 : Known Tryz.prog 223 := ⟨_, Tryz.func223, by kernel_rfl, by kernel_rfl⟩
theorem K224 : Known Tryz.prog 224 := ⟨_, Tryz.func224, by kernel_rfl, by kernel_rfl⟩
theorem K225 : Known Tryz.prog 225 := ⟨_, Tryz.func225, by kernel_rfl, by kernel_rfl⟩
theorem K226 : Known Tryz.prog 226 := ⟨_, Tryz.func226, by kernel_rfl, by kernel_rfl⟩
theorem K227 : Known Tryz.prog 227 := ⟨_, Tryz.func227, by kernel_rfl, by kernel_rfl⟩
theorem K228 : Known Tryz.prog 228 := ⟨_, Tryz.func228, by kernel_rfl, by kernel_rfl⟩
theorem K229 : Known Tryz.prog 229 := ⟨_, Tryz.func229, by kernel_rfl, by kernel_rfl⟩
theorem K23 : Known Tryz.prog 23 := ⟨_, Tryz.func23, by kernel_rfl, by kernel_rfl⟩
theorem K230 : Known Tryz.prog 230 := ⟨_, Tryz.func230, by kernel_rfl, by kernel_rfl⟩
theorem K231 : Known Tryz.prog 231 := ⟨_, Tryz.func231, by kernel_rfl, by kernel_rfl⟩
theorem K232 : Known Tryz.prog 232 := ⟨_, Tryz.func232, by kernel_rfl, by kernel_rfl⟩
theorem K233 : Known Tryz.prog 233 := ⟨_, Tryz.func233, by kernel_rfl, by kernel_rfl⟩
theorem K234 : Known Tryz.prog 234 := ⟨_, Tryz.func234, by kernel_rfl, by kernel_rfl⟩
theorem K235 : Known Tryz.prog 235 := ⟨_, Tryz.func235, by kernel_rfl, by kernel_rfl⟩
theorem K236 : Known Tryz.prog 236 := ⟨_, Tryz.func236, by kernel_rfl, by kernel_rfl⟩
theorem K237 : Known Tryz.prog 237 := ⟨_, Tryz.func237, by kernel_rfl, by kernel_rfl⟩
theorem K238 : Known Tryz.prog 238 := ⟨_, Tryz.func238, by kernel_rfl, by kernel_rfl⟩
theorem K239 : Known Tryz.prog 239 := ⟨_, Tryz.func239, by kernel_rfl, by kernel_rfl⟩
theorem K24 : Known Tryz.prog 24 := ⟨_, Tryz.func24, by kernel_rfl, by kernel_rfl⟩
theorem K240 : Known Tryz.prog 240 := ⟨_, Tryz.func240, by kernel_rfl, by kernel_rfl⟩
theorem K241 : Known Tryz.prog 241 := ⟨_, Tryz.func241, by kernel_rfl, by kernel_rfl⟩
theorem K242 : Known Tryz.prog 242 := ⟨_, Tryz.func242, by kernel_rfl, by kernel_rfl⟩
theorem K243 : Known Tryz.prog 243 := ⟨_, Tryz.func243, by kernel_rfl, by kernel_rfl⟩
theorem K244 : Known Tryz.prog 244 := ⟨_, Tryz.func244, by kernel_rfl, by kernel_rfl⟩
theorem K245 : Known Tryz.prog 245 := ⟨_, Tryz.func245, by kernel_rfl, by kernel_rfl⟩
theorem K246 : Known Tryz.prog 246 := ⟨_, Tryz.func246, by kernel_rfl, by kernel_rfl⟩
theorem K247 : Known Tryz.prog 247 := ⟨_, Tryz.func247, by kernel_rfl, by kernel_rfl⟩
theorem K248 : Known Tryz.prog 248 := ⟨_, Tryz.func248, by kernel_rfl, by kernel_rfl⟩
theorem K249 : Known Tryz.prog 249 := ⟨_, Tryz.func249, by kernel_rfl, by kernel_rfl⟩
theorem K25 : Known Tryz.prog 25 := ⟨_, Tryz.func25, by kernel_rfl, by kernel_rfl⟩
theorem K250 : Known Tryz.prog 250 := ⟨_, Tryz.func250, by kernel_rfl, by kernel_rfl⟩
theorem K251 : Known Tryz.prog 251 := ⟨_, Tryz.func251, by kernel_rfl, by kernel_rfl⟩
theorem K252 : Known Tryz.prog 252 := ⟨_, Tryz.func252, by kernel_rfl, by kernel_rfl⟩
theorem K253 : Known Tryz.prog 253 := ⟨_, Tryz.func253, by kernel_rfl, by kernel_rfl⟩
theorem K254 : Known Tryz.prog 254 := ⟨_, Tryz.func254, by kernel_rfl, by kernel_rfl⟩
theorem K255 : Known Tryz.prog 255 := ⟨_, Tryz.func255, by kernel_rfl, by kernel_rfl⟩
theorem K256 : Known Tryz.prog 256 := ⟨_, Tryz.func256, by kernel_rfl, by kernel_rfl⟩
theorem K257 : Known Tryz.prog 257 := ⟨_, Tryz.func257, by kernel_rfl, by kernel_rfl⟩
theorem K258 : Known Tryz.prog 258 := ⟨_, Tryz.func258, by kernel_rfl, by kernel_rfl⟩
theorem K259 : Known Tryz.prog 259 := ⟨_, Tryz.func259, by kernel_rfl, by kernel_rfl⟩
theorem K26 : Known Tryz.prog 26 := ⟨_, Tryz.func26, by kernel_rfl, by kernel_rfl⟩
theorem K260 : Known Tryz.prog 260 := ⟨_, Tryz.func260, by kernel_rfl, by kernel_rfl⟩
theorem K261 : Known Tryz.prog 261 := ⟨_, Tryz.func261, by kernel_rfl, by kernel_rfl⟩
theorem K27 : Known Tryz.prog 27 := ⟨_, Tryz.func27, by kernel_rfl, by kernel_rfl⟩
theorem K28 : Known Tryz.prog 28 := ⟨_, Tryz.func28, by kernel_rfl, by kernel_rfl⟩
theorem K282 : Known Tryz.prog 282 := ⟨_, Tryz.func282, by kernel_rfl, by kernel_rfl⟩
theorem K29 : Known Tryz.prog 29 := ⟨_, Tryz.func29, by kernel_rfl, by kernel_rfl⟩
theorem K3 : Known Tryz.prog 3 := ⟨_, Tryz.func3, by kernel_rfl, by kernel_rfl⟩
theorem K30 : Known Tryz.prog 30 := ⟨_, Tryz.func30, by kernel_rfl, by kernel_rfl⟩
theorem K31 : Known Tryz.prog 31 := ⟨_, Tryz.func31, by kernel_rfl, by kernel_rfl⟩
theorem K32 : Known Tryz.prog 32 := ⟨_, Tryz.func32, by kernel_rfl, by kernel_rfl⟩
theorem K33 : Known Tryz.prog 33 := ⟨_, Tryz.func33, by kernel_rfl, by kernel_rfl⟩
theorem K34 : Known Tryz.prog 34 := ⟨_, Tryz.func34, by kernel_rfl, by kernel_rfl⟩
theorem K35 : Known Tryz.prog 35 := ⟨_, Tryz.func35, by kernel_rfl, by kernel_rfl⟩
theorem K36 : Known Tryz.prog 36 := ⟨_, Tryz.func36, by kernel_rfl, by kernel_rfl⟩
theorem K37 : Known Tryz.prog 37 := ⟨_, Tryz.func37, by kernel_rfl, by kernel_rfl⟩
theorem K38 : Known Tryz.prog 38 := ⟨_, Tryz.func38, by kernel_rfl, by kernel_rfl⟩
theorem K39 : Known Tryz.prog 39 := ⟨_, Tryz.func39, by kernel_rfl, by kernel_rfl⟩
theorem K4 : Known Tryz.prog 4 := ⟨_, Tryz.func4, by kernel_rfl, by kernel_rfl⟩
theorem K40 : Known Tryz.prog 40 := ⟨_, Tryz.func40, by kernel_rfl, by kernel_rfl⟩
theorem K41 : Known Tryz.prog 41 := ⟨_, Tryz.func41, by kernel_rfl, by kernel_rfl⟩
theorem K42 : Known Tryz.prog 42 := ⟨_, Tryz.func42, by kernel_rfl, by kernel_rfl⟩
theorem K43 : Known Tryz.prog 43 := ⟨_, Tryz.func43, by kernel_rfl, by kernel_rfl⟩
theorem K44 : Known Tryz.prog 44 := ⟨_, Tryz.func44, by kernel_rfl, by kernel_rfl⟩
theorem K45 : Known Tryz.prog 45 := ⟨_, Tryz.func45, by kernel_rfl, by kernel_rfl⟩
theorem K46 : Known Tryz.prog 46 := ⟨_, Tryz.func46, by kernel_rfl, by kernel_rfl⟩
theorem K47 : Known Tryz.prog 47 := ⟨_, Tryz.func47, by kernel_rfl, by kernel_rfl⟩
theorem K48 : Known Tryz.prog 48 := ⟨_, Tryz.func48, by kernel_rfl, by kernel_rfl⟩
theorem K49 : Known Tryz.prog 49 := ⟨_, Tryz.func49, by kernel_rfl, by kernel_rfl⟩
theorem K5 : Known Tryz.prog 5 := ⟨_, Tryz.func5, by kernel_rfl, by kernel_rfl⟩
theorem K50 : Known Tryz.prog 50 := ⟨_, Tryz.func50, by kernel_rfl, by kernel_rfl⟩
theorem K51 : Known Tryz.prog 51 := ⟨_, Tryz.func51, by kernel_rfl, by kernel_rfl⟩
theorem K52 : Known Tryz.prog 52 := ⟨_, Tryz.func52, by kernel_rfl, by kernel_rfl⟩
theorem K53 : Known Tryz.prog 53 := ⟨_, Tryz.func53, by kernel_rfl, by kernel_rfl⟩
theorem K54 : Known Tryz.prog 54 := ⟨_, Tryz.func54, by kernel_rfl, by kernel_rfl⟩
theorem K55 : Known Tryz.prog 55 := ⟨_, Tryz.func55, by kernel_rfl, by kernel_rfl⟩
theorem K56 : Known Tryz.prog 56 := ⟨_, Tryz.func56, by kernel_rfl, by kernel_rfl⟩
theorem K57 : Known Tryz.prog 57 := ⟨_, Tryz.func57, by kernel_rfl, by kernel_rfl⟩
theorem K58 : Known Tryz.prog 58 := ⟨_, Tryz.func58, by kernel_rfl, by kernel_rfl⟩
theorem K59 : Known Tryz.prog 59 := ⟨_, Tryz.func59, by kernel_rfl, by kernel_rfl⟩
theorem K6 : Known Tryz.prog 6 := ⟨_, Tryz.func6, by kernel_rfl, by kernel_rfl⟩
theorem K60 : Known Tryz.prog 60 := ⟨_, Tryz.func60, by kernel_rfl, by kernel_rfl⟩
theorem K61 : Known Tryz.prog 61 := ⟨_, Tryz.func61, by kernel_rfl, by kernel_rfl⟩
theorem K62 : Known Tryz.prog 62 := ⟨_, Tryz.func62, by kernel_rfl, by kernel_rfl⟩
theorem K63 : Known Tryz.prog 63 := ⟨_, Tryz.func63, by kernel_rfl, by kernel_rfl⟩
theorem K64 : Known Tryz.prog 64 := ⟨_, Tryz.func64, by kernel_rfl, by kernel_rfl⟩
theorem K65 : Known Tryz.prog 65 := ⟨_, Tryz.func65, by kernel_rfl, by kernel_rfl⟩
theorem K66 : Known Tryz.prog 66 := ⟨_, Tryz.func66, by kernel_rfl, by kernel_rfl⟩
theorem K67 : Known Tryz.prog 67 := ⟨_, Tryz.func67, by kernel_rfl, by kernel_rfl⟩
theorem K68 : Known Tryz.prog 68 := ⟨_, Tryz.func68, by kernel_rfl, by kernel_rfl⟩
theorem K69 : Known Tryz.prog 69 := ⟨_, Tryz.func69, by kernel_rfl, by kernel_rfl⟩
theorem K7 : Known Tryz.prog 7 := ⟨_, Tryz.func7, by kernel_rfl, by kernel_rfl⟩
theorem K70 : Known Tryz.prog 70 := ⟨_, Tryz.func70, by kernel_rfl, by kernel_rfl⟩
theorem K71 : Known Tryz.prog 71 := ⟨_, Tryz.func71, by kernel_rfl, by kernel_rfl⟩
theorem K72 : Known Tryz.prog 72 := ⟨_, Tryz.func72, by kernel_rfl, by kernel_rfl⟩
theorem K73 : Known Tryz.prog 73 := ⟨_, Tryz.func73, by kernel_rfl, by kernel_rfl⟩
theorem K74 : Known Tryz.prog 74 := ⟨_, Tryz.func74, by kernel_rfl, by kernel_rfl⟩
theorem K75 : Known Tryz.prog 75 := ⟨_, Tryz.func75, by kernel_rfl, by kernel_rfl⟩
theorem K76 : Known Tryz.prog 76 := ⟨_, Tryz.func76, by kernel_rfl, by kernel_rfl⟩
theorem K77 : Known Tryz.prog 77 := ⟨_, Tryz.func77, by kernel_rfl, by kernel_rfl⟩
theorem K78 : Known Tryz.prog 78 := ⟨_, Tryz.func78, by kernel_rfl, by kernel_rfl⟩
theorem K79 : Known Tryz.prog 79 := ⟨_, Tryz.func79, by kernel_rfl, by kernel_rfl⟩
theorem K8 : Known Tryz.prog 8 := ⟨_, Tryz.func8, by kernel_rfl, by kernel_rfl⟩
theorem K80 : Known Tryz.prog 80 := ⟨_, Tryz.func80, by kernel_rfl, by kernel_rfl⟩
theorem K81 : Known Tryz.prog 81 := ⟨_, Tryz.func81, by kernel_rfl, by kernel_rfl⟩
theorem K82 : Known Tryz.prog 82 := ⟨_, Tryz.func82, by kernel_rfl, by kernel_rfl⟩
theorem K83 : Known Tryz.prog 83 := ⟨_, Tryz.func83, by kernel_rfl, by kernel_rfl⟩
theorem K84 : Known Tryz.prog 84 := ⟨_, Tryz.func84, by kernel_rfl, by kernel_rfl⟩
theorem K85 : Known Tryz.prog 85 := ⟨_, Tryz.func85, by kernel_rfl, by kernel_rfl⟩
theorem K86 : Known Tryz.prog 86 := ⟨_, Tryz.func86, by kernel_rfl, by kernel_rfl⟩
theorem K87 : Known Tryz.prog 87 := ⟨_, Tryz.func87, by kernel_rfl, by kernel_rfl⟩
theorem K88 : Known Tryz.prog 88 := ⟨_, Tryz.func88, by kernel_rfl, by kernel_rfl⟩
theorem K89 : Known Tryz.prog 89 := ⟨_, Tryz.func89, by kernel_rfl, by kernel_rfl⟩
theorem K9 : Known Tryz.prog 9 := ⟨_, Tryz.func9, by kernel_rfl, by kernel_rfl⟩
theorem K90 : Known Tryz.prog 90 := ⟨_, Tryz.func90, by kernel_rfl, by kernel_rfl⟩
theorem K91 : Known Tryz.prog 91 := ⟨_, Tryz.func91, by kernel_rfl, by kernel_rfl⟩
theorem K92 : Known Tryz.prog 92 := ⟨_, Tryz.func92, by kernel_rfl, by kernel_rfl⟩
theorem K93 : Known Tryz.prog 93 := ⟨_, Tryz.func93, by kernel_rfl, by kernel_rfl⟩
theorem K94 : Known Tryz.prog 94 := ⟨_, Tryz.func94, by kernel_rfl, by kernel_rfl⟩
theorem K95 : Known Tryz.prog 95 := ⟨_, Tryz.func95, by kernel_rfl, by kernel_rfl⟩
theorem K96 : Known Tryz.prog 96 := ⟨_, Tryz.func96, by kernel_rfl, by kernel_rfl⟩
theorem K97 : Known Tryz.prog 97 := ⟨_, Tryz.func97, by kernel_rfl, by kernel_rfl⟩
theorem K98 : Known Tryz.prog 98 := ⟨_, Tryz.func98, by kernel_rfl, by kernel_rfl⟩
theorem K99 : Known Tryz.prog 99 := ⟨_, Tryz.func99, by kernel_rfl, by kernel_rfl⟩
theorem app107 : appK Tryz.prog 107 = some (111, 4, 40) := by kernel_rfl
theorem app112 : appK Tryz.prog 112 = some (116, 13, 152) := by kernel_rfl
theorem app117 : appK Tryz.prog 117 = some (132, 2, 40) := by kernel_rfl
theorem app121 : appK Tryz.prog 121 = some (210, 2, 40) := by kernel_rfl
theorem app134 : appK Tryz.prog 134 = some (138, 4, 40) := by kernel_rfl
theorem app170 : appK Tryz.prog 170 = some (37, 1, 8) := by kernel_rfl
theorem app22 : appK Tryz.prog 22 = some (9, 1, 16) := by kernel_rfl
theorem app225 : appK Tryz.prog 225 = some (4, 1, 1) := by kernel_rfl
theorem app25 : appK Tryz.prog 25 = some (152, 3, 40) := by kernel_rfl
theorem app26 : appK Tryz.prog 26 = some (105, 8, 96) := by kernel_rfl
theorem app32 : appK Tryz.prog 32 = some (160, 3, 40) := by kernel_rfl
theorem app35 : appK Tryz.prog 35 = some (161, 8, 96) := by kernel_rfl
theorem app69 : appK Tryz.prog 69 = some (46, 3, 24) := by kernel_rfl
theorem app79 : appK Tryz.prog 79 = some (155, 2, 16) := by kernel_rfl
theorem app82 : appK Tryz.prog 82 = some (3, 1, 8) := by kernel_rfl
theorem app89 : appK Tryz.prog 89 = some (158, 2, 16) := by kernel_rfl
theorem fl104_0 : fieldK Tryz.prog 104 0 = some (0, 1, false) := by kernel_rfl
theorem fl104_1 : fieldK Tryz.prog 104 1 = some (1, 1, false) := by kernel_rfl
theorem fl104_2 : fieldK Tryz.prog 104 2 = some (2, 1, false) := by kernel_rfl
theorem fl104_3 : fieldK Tryz.prog 104 3 = some (3, 1, false) := by kernel_rfl
theorem fl104_4 : fieldK Tryz.prog 104 4 = some (4, 1, false) := by kernel_rfl
theorem fl104_5 : fieldK Tryz.prog 104 5 = some (5, 1, false) := by kernel_rfl
theorem fl104_6 : fieldK Tryz.prog 104 6 = some (6, 1, false) := by kernel_rfl
theorem fl104_7 : fieldK Tryz.prog 104 7 = some (7, 1, false) := by kernel_rfl
theorem fl105_0 : fieldK Tryz.prog 105 0 = some (0, 1, false) := by kernel_rfl
theorem fl105_1 : fieldK Tryz.prog 105 1 = some (1, 1, false) := by kernel_rfl
theorem fl105_2 : fieldK Tryz.prog 105 2 = some (2, 1, false) := by kernel_rfl
theorem fl105_3 : fieldK Tryz.prog 105 3 = some (3, 1, false) := by kernel_rfl
theorem fl105_4 : fieldK Tryz.prog 105 4 = some (4, 1, false) := by kernel_rfl
theorem fl105_5 : fieldK Tryz.prog 105 5 = some (5, 1, false) := by kernel_rfl
theorem fl105_6 : fieldK Tryz.prog 105 6 = some (6, 1, false) := by kernel_rfl
theorem fl105_7 : fieldK Tryz.prog 105 7 = some (7, 1, false) := by kernel_rfl
theorem fl110_0 : fieldK Tryz.prog 110 0 = some (0, 1, false) := by kernel_rfl
theorem fl110_1 : fieldK Tryz.prog 110 1 = some (1, 2, true) := by kernel_rfl
theorem fl110_2 : fieldK Tryz.prog 110 2 = some (3, 1, false) := by kernel_rfl
theorem fl111_0 : fieldK Tryz.prog 111 0 = some (0, 1, false) := by kernel_rfl
theorem fl111_1 : fieldK Tryz.prog 111 1 = some (1, 2, true) := by kernel_rfl
theorem fl111_2 : fieldK Tryz.prog 111 2 = some (3, 1, false) := by kernel_rfl
theorem fl113_0 : fieldK Tryz.prog 113 0 = some (0, 1, false) := by kernel_rfl
theorem fl113_1 : fieldK Tryz.prog 113 1 = some (1, 2, true) := by kernel_rfl
theorem fl114_0 : fieldK Tryz.prog 114 0 = some (0, 1, false) := by kernel_rfl
theorem fl114_1 : fieldK Tryz.prog 114 1 = some (1, 2, true) := by kernel_rfl
theorem fl115_0 : fieldK Tryz.prog 115 0 = some (0, 1, false) := by kernel_rfl
theorem fl115_1 : fieldK Tryz.prog 115 1 = some (1, 1, false) := by kernel_rfl
theorem fl115_10 : fieldK Tryz.prog 115 10 = some (12, 1, false) := by kernel_rfl
theorem fl115_2 : fieldK Tryz.prog 115 2 = some (2, 1, false) := by kernel_rfl
theorem fl115_3 : fieldK Tryz.prog 115 3 = some (3, 1, false) := by kernel_rfl
theorem fl115_4 : fieldK Tryz.prog 115 4 = some (4, 1, false) := by kernel_rfl
theorem fl115_5 : fieldK Tryz.prog 115 5 = some (5, 1, false) := by kernel_rfl
theorem fl115_6 : fieldK Tryz.prog 115 6 = some (6, 3, true) := by kernel_rfl
theorem fl115_7 : fieldK Tryz.prog 115 7 = some (9, 1, false) := by kernel_rfl
theorem fl115_8 : fieldK Tryz.prog 115 8 = some (10, 1, false) := by kernel_rfl
theorem fl115_9 : fieldK Tryz.prog 115 9 = some (11, 1, false) := by kernel_rfl
theorem fl116_0 : fieldK Tryz.prog 116 0 = some (0, 1, false) := by kernel_rfl
theorem fl116_1 : fieldK Tryz.prog 116 1 = some (1, 1, false) := by kernel_rfl
theorem fl116_10 : fieldK Tryz.prog 116 10 = some (12, 1, false) := by kernel_rfl
theorem fl116_2 : fieldK Tryz.prog 116 2 = some (2, 1, false) := by kernel_rfl
theorem fl116_3 : fieldK Tryz.prog 116 3 = some (3, 1, false) := by kernel_rfl
theorem fl116_4 : fieldK Tryz.prog 116 4 = some (4, 1, false) := by kernel_rfl
theorem fl116_5 : fieldK Tryz.prog 116 5 = some (5, 1, false) := by kernel_rfl
theorem fl116_6 : fieldK Tryz.prog 116 6 = some (6, 3, true) := by kernel_rfl
theorem fl116_7 : fieldK Tryz.prog 116 7 = some (9, 1, false) := by kernel_rfl
theorem fl116_8 : fieldK Tryz.prog 116 8 = some (10, 1, false) := by kernel_rfl
theorem fl116_9 : fieldK Tryz.prog 116 9 = some (11, 1, false) := by kernel_rfl
theorem fl13_0 : fieldK Tryz.prog 13 0 = some (0, 1, false) := by kernel_rfl
theorem fl13_1 : fieldK Tryz.prog 13 1 = some (1, 1, false) := by kernel_rfl
theorem fl131_0 : fieldK Tryz.prog 131 0 = some (0, 1, false) := by kernel_rfl
theorem fl131_1 : fieldK Tryz.prog 131 1 = some (1, 1, false) := by kernel_rfl
theorem fl132_0 : fieldK Tryz.prog 132 0 = some (0, 1, false) := by kernel_rfl
theorem fl132_1 : fieldK Tryz.prog 132 1 = some (1, 1, false) := by kernel_rfl
theorem fl137_0 : fieldK Tryz.prog 137 0 = some (0, 1, false) := by kernel_rfl
theorem fl137_1 : fieldK Tryz.prog 137 1 = some (1, 2, true) := by kernel_rfl
theorem fl137_2 : fieldK Tryz.prog 137 2 = some (3, 1, false) := by kernel_rfl
theorem fl138_0 : fieldK Tryz.prog 138 0 = some (0, 1, false) := by kernel_rfl
theorem fl138_1 : fieldK Tryz.prog 138 1 = some (1, 2, true) := by kernel_rfl
theorem fl138_2 : fieldK Tryz.prog 138 2 = some (3, 1, false) := by kernel_rfl
theorem fl139_0 : fieldK Tryz.prog 139 0 = some (0, 1, false) := by kernel_rfl
theorem fl139_1 : fieldK Tryz.prog 139 1 = some (1, 1, false) := by kernel_rfl
theorem fl14_0 : fieldK Tryz.prog 14 0 = some (0, 1, false) := by kernel_rfl
theorem fl14_1 : fieldK Tryz.prog 14 1 = some (1, 1, false) := by kernel_rfl
theorem fl140_0 : fieldK Tryz.prog 140 0 = some (0, 1, false) := by kernel_rfl
theorem fl140_1 : fieldK Tryz.prog 140 1 = some (1, 1, false) := by kernel_rfl
theorem fl141_0 : fieldK Tryz.prog 141 0 = some (0, 1, false) := by kernel_rfl
theorem fl141_1 : fieldK Tryz.prog 141 1 = some (1, 1, false) := by kernel_rfl
theorem fl141_2 : fieldK Tryz.prog 141 2 = some (2, 1, false) := by kernel_rfl
theorem fl141_3 : fieldK Tryz.prog 141 3 = some (3, 2, true) := by kernel_rfl
theorem fl142_0 : fieldK Tryz.prog 142 0 = some (0, 1, false) := by kernel_rfl
theorem fl142_1 : fieldK Tryz.prog 142 1 = some (1, 1, false) := by kernel_rfl
theorem fl142_2 : fieldK Tryz.prog 142 2 = some (2, 1, false) := by kernel_rfl
theorem fl142_3 : fieldK Tryz.prog 142 3 = some (3, 2, true) := by kernel_rfl
theorem fl149_0 : fieldK Tryz.prog 149 0 = some (0, 1, false) := by kernel_rfl
theorem fl149_1 : fieldK Tryz.prog 149 1 = some (1, 1, false) := by kernel_rfl
theorem fl151_0 : fieldK Tryz.prog 151 0 = some (0, 1, false) := by kernel_rfl
theorem fl151_1 : fieldK Tryz.prog 151 1 = some (1, 1, false) := by kernel_rfl
theorem fl151_2 : fieldK Tryz.prog 151 2 = some (2, 1, false) := by kernel_rfl
theorem fl152_0 : fieldK Tryz.prog 152 0 = some (0, 1, false) := by kernel_rfl
theorem fl152_1 : fieldK Tryz.prog 152 1 = some (1, 1, false) := by kernel_rfl
theorem fl152_2 : fieldK Tryz.prog 152 2 = some (2, 1, false) := by kernel_rfl
theorem fl154_0 : fieldK Tryz.prog 154 0 = some (0, 1, false) := by kernel_rfl
theorem fl154_1 : fieldK Tryz.prog 154 1 = some (1, 1, false) := by kernel_rfl
theorem fl155_0 : fieldK Tryz.prog 155 0 = some (0, 1, false) := by kernel_rfl
theorem fl155_1 : fieldK Tryz.prog 155 1 = some (1, 1, false) := by kernel_rfl
theorem fl158_0 : fieldK Tryz.prog 158 0 = some (0, 1, false) := by kernel_rfl
theorem fl158_1 : fieldK Tryz.prog 158 1 = some (1, 1, false) := by kernel_rfl
theorem fl160_0 : fieldK Tryz.prog 160 0 = some (0, 1, false) := by kernel_rfl
theorem fl160_1 : fieldK Tryz.prog 160 1 = some (1, 1, false) := by kernel_rfl
theorem fl160_2 : fieldK Tryz.prog 160 2 = some (2, 1, false) := by kernel_rfl
theorem fl161_0 : fieldK Tryz.prog 161 0 = some (0, 1, false) := by kernel_rfl
theorem fl161_1 : fieldK Tryz.prog 161 1 = some (1, 1, false) := by kernel_rfl
theorem fl161_2 : fieldK Tryz.prog 161 2 = some (2, 1, false) := by kernel_rfl
theorem fl161_3 : fieldK Tryz.prog 161 3 = some (3, 1, false) := by kernel_rfl
theorem fl161_4 : fieldK Tryz.prog 161 4 = some (4, 1, false) := by kernel_rfl
theorem fl161_5 : fieldK Tryz.prog 161 5 = some (5, 1, false) := by kernel_rfl
theorem fl161_6 : fieldK Tryz.prog 161 6 = some (6, 1, false) := by kernel_rfl
theorem fl161_7 : fieldK Tryz.prog 161 7 = some (7, 1, false) := by kernel_rfl
theorem fl210_0 : fieldK Tryz.prog 210 0 = some (0, 1, false) := by kernel_rfl
theorem fl210_1 : fieldK Tryz.prog 210 1 = some (1, 1, false) := by kernel_rfl
theorem fl23_0 : fieldK Tryz.prog 23 0 = some (0, 1, false) := by kernel_rfl
theorem fl23_1 : fieldK Tryz.prog 23 1 = some (1, 1, false) := by kernel_rfl
theorem fl23_2 : fieldK Tryz.prog 23 2 = some (2, 1, false) := by kernel_rfl
theorem fl23_3 : fieldK Tryz.prog 23 3 = some (3, 1, false) := by kernel_rfl
theorem fl23_4 : fieldK Tryz.prog 23 4 = some (4, 1, false) := by kernel_rfl
theorem fl23_5 : fieldK Tryz.prog 23 5 = some (5, 1, false) := by kernel_rfl
theorem fl23_6 : fieldK Tryz.prog 23 6 = some (6, 1, false) := by kernel_rfl
theorem fl24_0 : fieldK Tryz.prog 24 0 = some (0, 1, false) := by kernel_rfl
theorem fl24_1 : fieldK Tryz.prog 24 1 = some (1, 1, false) := by kernel_rfl
theorem fl24_2 : fieldK Tryz.prog 24 2 = some (2, 1, false) := by kernel_rfl
theorem fl24_3 : fieldK Tryz.prog 24 3 = some (3, 1, false) := by kernel_rfl
theorem fl24_4 : fieldK Tryz.prog 24 4 = some (4, 1, false) := by kernel_rfl
theorem fl24_5 : fieldK Tryz.prog 24 5 = some (5, 1, false) := by kernel_rfl
theorem fl24_6 : fieldK Tryz.prog 24 6 = some (6, 1, false) := by kernel_rfl
theorem fl29_0 : fieldK Tryz.prog 29 0 = some (0, 1, false) := by kernel_rfl
theorem fl29_1 : fieldK Tryz.prog 29 1 = some (1, 1, false) := by kernel_rfl
theorem fl29_2 : fieldK Tryz.prog 29 2 = some (2, 1, false) := by kernel_rfl
theorem fl29_3 : fieldK Tryz.prog 29 3 = some (3, 1, false) := by kernel_rfl
theorem fl29_4 : fieldK Tryz.prog 29 4 = some (4, 1, false) := by kernel_rfl
theorem fl29_5 : fieldK Tryz.prog 29 5 = some (5, 1, false) := by kernel_rfl
theorem fl29_6 : fieldK Tryz.prog 29 6 = some (6, 1, false) := by kernel_rfl
theorem fl45_0 : fieldK Tryz.prog 45 0 = some (0, 1, false) := by kernel_rfl
theorem fl45_1 : fieldK Tryz.prog 45 1 = some (1, 1, false) := by kernel_rfl
theorem fl45_2 : fieldK Tryz.prog 45 2 = some (2, 1, false) := by kernel_rfl
theorem fl46_0 : fieldK Tryz.prog 46 0 = some (0, 1, false) := by kernel_rfl
theorem fl46_1 : fieldK Tryz.prog 46 1 = some (1, 1, false) := by kernel_rfl
theorem fl46_2 : fieldK Tryz.prog 46 2 = some (2, 1, false) := by kernel_rfl
theorem fl47_0 : fieldK Tryz.prog 47 0 = some (0, 1, false) := by kernel_rfl
theorem fl47_1 : fieldK Tryz.prog 47 1 = some (1, 1, false) := by kernel_rfl
theorem fl47_2 : fieldK Tryz.prog 47 2 = some (2, 3, true) := by kernel_rfl
theorem fl47_3 : fieldK Tryz.prog 47 3 = some (5, 1, false) := by kernel_rfl
theorem fl48_0 : fieldK Tryz.prog 48 0 = some (0, 1, false) := by kernel_rfl
theorem fl48_1 : fieldK Tryz.prog 48 1 = some (1, 1, false) := by kernel_rfl
theorem fl48_2 : fieldK Tryz.prog 48 2 = some (2, 3, true) := by kernel_rfl
theorem fl48_3 : fieldK Tryz.prog 48 3 = some (5, 1, false) := by kernel_rfl
theorem fl55_0 : fieldK Tryz.prog 55 0 = some (0, 1, false) := by kernel_rfl
theorem fl55_1 : fieldK Tryz.prog 55 1 = some (1, 1, false) := by kernel_rfl
theorem fl56_0 : fieldK Tryz.prog 56 0 = some (0, 1, false) := by kernel_rfl
theorem fl56_1 : fieldK Tryz.prog 56 1 = some (1, 1, false) := by kernel_rfl
theorem fl63_0 : fieldK Tryz.prog 63 0 = some (0, 1, false) := by kernel_rfl
theorem fl63_1 : fieldK Tryz.prog 63 1 = some (1, 1, false) := by kernel_rfl
theorem fl67_0 : fieldK Tryz.prog 67 0 = some (0, 1, false) := by kernel_rfl
theorem fl67_1 : fieldK Tryz.prog 67 1 = some (1, 1, false) := by kernel_rfl
theorem fl68_0 : fieldK Tryz.prog 68 0 = some (0, 1, false) := by kernel_rfl
theorem fl68_1 : fieldK Tryz.prog 68 1 = some (1, 1, false) := by kernel_rfl
theorem fl7_0 : fieldK Tryz.prog 7 0 = some (0, 1, false) := by kernel_rfl
theorem fl7_1 : fieldK Tryz.prog 7 1 = some (1, 1, false) := by kernel_rfl
theorem fl7_2 : fieldK Tryz.prog 7 2 = some (2, 1, false) := by kernel_rfl
theorem fl7_3 : fieldK Tryz.prog 7 3 = some (3, 1, false) := by kernel_rfl
theorem fl74_0 : fieldK Tryz.prog 74 0 = some (0, 1, false) := by kernel_rfl
theorem fl74_1 : fieldK Tryz.prog 74 1 = some (1, 1, false) := by kernel_rfl
theorem fl8_0 : fieldK Tryz.prog 8 0 = some (0, 1, false) := by kernel_rfl
theorem fl8_1 : fieldK Tryz.prog 8 1 = some (1, 1, false) := by kernel_rfl
theorem fl8_2 : fieldK Tryz.prog 8 2 = some (2, 1, false) := by kernel_rfl
theorem fl8_3 : fieldK Tryz.prog 8 3 = some (3, 1, false) := by kernel_rfl
theorem pl104 : placesK Tryz.prog 104 = some [(0, 1), (1, 1), (2, 1), (3, 1), (4, 1), (5, 1), (6, 1), (7, 1)] := by kernel_rfl
theorem pl105 : placesK Tryz.prog 105 = some [(0, 1), (1, 1), (2, 1), (3, 1), (4, 1), (5, 1), (6, 1), (7, 1)] := by kernel_rfl
theorem pl110 : placesK Tryz.prog 110 = some [(0, 1), (1, 2), (3, 1)] := by kernel_rfl
theorem pl111 : placesK Tryz.prog 111 = some [(0, 1), (1, 2), (3, 1)] := by kernel_rfl
theorem pl113 : placesK Tryz.prog 113 = some [(0, 1), (1, 2)] := by kernel_rfl
theorem pl114 : placesK Tryz.prog 114 = some [(0, 1), (1, 2)] := by kernel_rfl
theorem pl115 : placesK Tryz.prog 115 = some [(0, 1), (1, 1), (2, 1), (3, 1), (4, 1), (5, 1), (6, 3), (9, 1), (10, 1), (11, 1), (12, 1)] := by kernel_rfl
theorem pl116 : placesK Tryz.prog 116 = some [(0, 1), (1, 1), (2, 1), (3, 1), (4, 1), (5, 1), (6, 3), (9, 1), (10, 1), (11, 1), (12, 1)] := by kernel_rfl
theorem pl13 : placesK Tryz.prog 13 = some [(0, 1), (1, 1)] := by kernel_rfl
theorem pl131 : placesK Tryz.prog 131 = some [(0, 1), (1, 1)] := by kernel_rfl
theorem pl132 : placesK Tryz.prog 132 = some [(0, 1), (1, 1)] := by kernel_rfl
theorem pl137 : placesK Tryz.prog 137 = some [(0, 1), (1, 2), (3, 1)] := by kernel_rfl
theorem pl138 : placesK Tryz.prog 138 = some [(0, 1), (1, 2), (3, 1)] := by kernel_rfl
theorem pl139 : placesK Tryz.prog 139 = some [(0, 1), (1, 1)] := by kernel_rfl
theorem pl14 : placesK Tryz.prog 14 = some [(0, 1), (1, 1)] := by kernel_rfl
theorem pl140 : placesK Tryz.prog 140 = some [(0, 1), (1, 1)] := by kernel_rfl
theorem pl141 : placesK Tryz.prog 141 = some [(0, 1), (1, 1), (2, 1), (3, 2)] := by kernel_rfl
theorem pl142 : placesK Tryz.prog 142 = some [(0, 1), (1, 1), (2, 1), (3, 2)] := by kernel_rfl
theorem pl149 : placesK Tryz.prog 149 = some [(0, 1), (1, 1)] := by kernel_rfl
theorem pl151 : placesK Tryz.prog 151 = some [(0, 1), (1, 1), (2, 1)] := by kernel_rfl
theorem pl152 : placesK Tryz.prog 152 = some [(0, 1), (1, 1), (2, 1)] := by kernel_rfl
theorem pl154 : placesK Tryz.prog 154 = some [(0, 1), (1, 1)] := by kernel_rfl
theorem pl155 : placesK Tryz.prog 155 = some [(0, 1), (1, 1)] := by kernel_rfl
theorem pl158 : placesK Tryz.prog 158 = some [(0, 1), (1, 1)] := by kernel_rfl
theorem pl160 : placesK Tryz.prog 160 = some [(0, 1), (1, 1), (2, 1)] := by kernel_rfl
theorem pl161 : placesK Tryz.prog 161 = some [(0, 1), (1, 1), (2, 1), (3, 1), (4, 1), (5, 1), (6, 1), (7, 1)] := by kernel_rfl
theorem pl210 : placesK Tryz.prog 210 = some [(0, 1), (1, 1)] := by kernel_rfl
theorem pl23 : placesK Tryz.prog 23 = some [(0, 1), (1, 1), (2, 1), (3, 1), (4, 1), (5, 1), (6, 1)] := by kernel_rfl
theorem pl24 : placesK Tryz.prog 24 = some [(0, 1), (1, 1), (2, 1), (3, 1), (4, 1), (5, 1), (6, 1)] := by kernel_rfl
theorem pl29 : placesK Tryz.prog 29 = some [(0, 1), (1, 1), (2, 1), (3, 1), (4, 1), (5, 1), (6, 1)] := by kernel_rfl
theorem pl45 : placesK Tryz.prog 45 = some [(0, 1), (1, 1), (2, 1)] := by kernel_rfl
theorem pl46 : placesK Tryz.prog 46 = some [(0, 1), (1, 1), (2, 1)] := by kernel_rfl
theorem pl47 : placesK Tryz.prog 47 = some [(0, 1), (1, 1), (2, 3), (5, 1)] := by kernel_rfl
theorem pl48 : placesK Tryz.prog 48 = some [(0, 1), (1, 1), (2, 3), (5, 1)] := by kernel_rfl
theorem pl55 : placesK Tryz.prog 55 = some [(0, 1), (1, 1)] := by kernel_rfl
theorem pl56 : placesK Tryz.prog 56 = some [(0, 1), (1, 1)] := by kernel_rfl
theorem pl63 : placesK Tryz.prog 63 = some [(0, 1), (1, 1)] := by kernel_rfl
theorem pl67 : placesK Tryz.prog 67 = some [(0, 1), (1, 1)] := by kernel_rfl
theorem pl68 : placesK Tryz.prog 68 = some [(0, 1), (1, 1)] := by kernel_rfl
theorem pl7 : placesK Tryz.prog 7 = some [(0, 1), (1, 1), (2, 1), (3, 1)] := by kernel_rfl
theorem pl74 : placesK Tryz.prog 74 = some [(0, 1), (1, 1)] := by kernel_rfl
theorem pl8 : placesK Tryz.prog 8 = some [(0, 1), (1, 1), (2, 1), (3, 1)] := by kernel_rfl
theorem ty1 : tyK Tryz.prog 1 = some (1, false) := by kernel_rfl
theorem ty10 : tyK Tryz.prog 10 = some (1, false) := by kernel_rfl
theorem ty100 : tyK Tryz.prog 100 = some (1, false) := by kernel_rfl
theorem ty101 : tyK Tryz.prog 101 = some (1, false) := by kernel_rfl
theorem ty102 : tyK Tryz.prog 102 = some (1, false) := by kernel_rfl
theorem ty103 : tyK Tryz.prog 103 = some (1, false) := by kernel_rfl
theorem ty104 : tyK Tryz.prog 104 = some (8, true) := by kernel_rfl
theorem ty105 : tyK Tryz.prog 105 = some (8, true) := by kernel_rfl
theorem ty106 : tyK Tryz.prog 106 = some (1, false) := by kernel_rfl
theorem ty107 : tyK Tryz.prog 107 = some (1, false) := by kernel_rfl
theorem ty109 : tyK Tryz.prog 109 = some (1, false) := by kernel_rfl
theorem ty11 : tyK Tryz.prog 11 = some (1, false) := by kernel_rfl
theorem ty110 : tyK Tryz.prog 110 = some (4, true) := by kernel_rfl
theorem ty111 : tyK Tryz.prog 111 = some (4, true) := by kernel_rfl
theorem ty112 : tyK Tryz.prog 112 = some (1, false) := by kernel_rfl
theorem ty113 : tyK Tryz.prog 113 = some (3, true) := by kernel_rfl
theorem ty114 : tyK Tryz.prog 114 = some (3, true) := by kernel_rfl
theorem ty115 : tyK Tryz.prog 115 = some (13, true) := by kernel_rfl
theorem ty116 : tyK Tryz.prog 116 = some (13, true) := by kernel_rfl
theorem ty117 : tyK Tryz.prog 117 = some (1, false) := by kernel_rfl
theorem ty119 : tyK Tryz.prog 119 = some (1, false) := by kernel_rfl
theorem ty12 : tyK Tryz.prog 12 = some (1, false) := by kernel_rfl
theorem ty120 : tyK Tryz.prog 120 = some (1, false) := by kernel_rfl
theorem ty121 : tyK Tryz.prog 121 = some (1, false) := by kernel_rfl
theorem ty123 : tyK Tryz.prog 123 = some (1, false) := by kernel_rfl
theorem ty124 : tyK Tryz.prog 124 = some (1, false) := by kernel_rfl
theorem ty125 : tyK Tryz.prog 125 = some (1, false) := by kernel_rfl
theorem ty126 : tyK Tryz.prog 126 = some (1, false) := by kernel_rfl
theorem ty127 : tyK Tryz.prog 127 = some (1, false) := by kernel_rfl
theorem ty129 : tyK Tryz.prog 129 = some (1, false) := by kernel_rfl
theorem ty13 : tyK Tryz.prog 13 = some (2, true) := by kernel_rfl
theorem ty130 : tyK Tryz.prog 130 = some (1, false) := by kernel_rfl
theorem ty131 : tyK Tryz.prog 131 = some (2, true) := by kernel_rfl
theorem ty132 : tyK Tryz.prog 132 = some (2, true) := by kernel_rfl
theorem ty133 : tyK Tryz.prog 133 = some (1, false) := by kernel_rfl
theorem ty134 : tyK Tryz.prog 134 = some (1, false) := by kernel_rfl
theorem ty135 : tyK Tryz.prog 135 = some (1, false) := by kernel_rfl
theorem ty136 : tyK Tryz.prog 136 = some (1, false) := by kernel_rfl
theorem ty137 : tyK Tryz.prog 137 = some (4, true) := by kernel_rfl
theorem ty138 : tyK Tryz.prog 138 = some (4, true) := by kernel_rfl
theorem ty139 : tyK Tryz.prog 139 = some (2, true) := by kernel_rfl
theorem ty14 : tyK Tryz.prog 14 = some (2, true) := by kernel_rfl
theorem ty140 : tyK Tryz.prog 140 = some (2, true) := by kernel_rfl
theorem ty141 : tyK Tryz.prog 141 = some (5, true) := by kernel_rfl
theorem ty142 : tyK Tryz.prog 142 = some (5, true) := by kernel_rfl
theorem ty143 : tyK Tryz.prog 143 = some (1, false) := by kernel_rfl
theorem ty144 : tyK Tryz.prog 144 = some (1, false) := by kernel_rfl
theorem ty146 : tyK Tryz.prog 146 = some (1, false) := by kernel_rfl
theorem ty147 : tyK Tryz.prog 147 = some (1, false) := by kernel_rfl
theorem ty148 : tyK Tryz.prog 148 = some (1, false) := by kernel_rfl
theorem ty149 : tyK Tryz.prog 149 = some (2, true) := by kernel_rfl
theorem ty15 : tyK Tryz.prog 15 = some (1, false) := by kernel_rfl
theorem ty150 : tyK Tryz.prog 150 = some (1, false) := by kernel_rfl
theorem ty151 : tyK Tryz.prog 151 = some (3, true) := by kernel_rfl
theorem ty152 : tyK Tryz.prog 152 = some (3, true) := by kernel_rfl
theorem ty153 : tyK Tryz.prog 153 = some (1, false) := by kernel_rfl
theorem ty154 : tyK Tryz.prog 154 = some (2, true) := by kernel_rfl
theorem ty155 : tyK Tryz.prog 155 = some (2, true) := by kernel_rfl
theorem ty156 : tyK Tryz.prog 156 = some (1, false) := by kernel_rfl
theorem ty157 : tyK Tryz.prog 157 = some (1, false) := by kernel_rfl
theorem ty158 : tyK Tryz.prog 158 = some (2, true) := by kernel_rfl
theorem ty159 : tyK Tryz.prog 159 = some (1, false) := by kernel_rfl
theorem ty16 : tyK Tryz.prog 16 = some (1, false) := by kernel_rfl
theorem ty160 : tyK Tryz.prog 160 = some (3, true) := by kernel_rfl
theorem ty161 : tyK Tryz.prog 161 = some (8, true) := by kernel_rfl
theorem ty162 : tyK Tryz.prog 162 = some (1, false) := by kernel_rfl
theorem ty163 : tyK Tryz.prog 163 = some (1, false) := by kernel_rfl
theorem ty164 : tyK Tryz.prog 164 = some (1, false) := by kernel_rfl
theorem ty165 : tyK Tryz.prog 165 = some (1, false) := by kernel_rfl
theorem ty166 : tyK Tryz.prog 166 = some (1, false) := by kernel_rfl
theorem ty167 : tyK Tryz.prog 167 = some (1, false) := by kernel_rfl
theorem ty168 : tyK Tryz.prog 168 = some (1, false) := by kernel_rfl
theorem ty169 : tyK Tryz.prog 169 = some (1, false) := by kernel_rfl
theorem ty17 : tyK Tryz.prog 17 = some (1, false) := by kernel_rfl
theorem ty170 : tyK Tryz.prog 170 = some (1, false) := by kernel_rfl
theorem ty171 : tyK Tryz.prog 171 = some (1, false) := by kernel_rfl
theorem ty172 : tyK Tryz.prog 172 = some (1, false) := by kernel_rfl
theorem ty173 : tyK Tryz.prog 173 = some (1, false) := by kernel_rfl
theorem ty174 : tyK Tryz.prog 174 = some (1, false) := by kernel_rfl
theorem ty175 : tyK Tryz.prog 175 = some (1, false) := by kernel_rfl
theorem ty176 : tyK Tryz.prog 176 = some (1, false) := by kernel_rfl
theorem ty177 : tyK Tryz.prog 177 = some (1, false) := by kernel_rfl
theorem ty178 : tyK Tryz.prog 178 = some (1, false) := by kernel_rfl
theorem ty179 : tyK Tryz.prog 179 = some (1, false) := by kernel_rfl
theorem ty180 : tyK Tryz.prog 180 = some (1, false) := by kernel_rfl
theorem ty181 : tyK Tryz.prog 181 = some (1, false) := by kernel_rfl
theorem ty182 : tyK Tryz.prog 182 = some (1, false) := by kernel_rfl
theorem ty183 : tyK Tryz.prog 183 = some (1, false) := by kernel_rfl
theorem ty184 : tyK Tryz.prog 184 = some (1, false) := by kernel_rfl
theorem ty186 : tyK Tryz.prog 186 = some (1, false) := by kernel_rfl
theorem ty187 : tyK Tryz.prog 187 = some (1, false) := by kernel_rfl
theorem ty188 : tyK Tryz.prog 188 = some (1, false) := by kernel_rfl
theorem ty189 : tyK Tryz.prog 189 = some (1, false) := by kernel_rfl
theorem ty190 : tyK Tryz.prog 190 = some (1, false) := by kernel_rfl
theorem ty191 : tyK Tryz.prog 191 = some (1, false) := by kernel_rfl
theorem ty192 : tyK Tryz.prog 192 = some (1, false) := by kernel_rfl
theorem ty193 : tyK Tryz.prog 193 = some (1, false) := by kernel_rfl
theorem ty194 : tyK Tryz.prog 194 = some (1, false) := by kernel_rfl
theorem ty195 : tyK Tryz.prog 195 = some (1, false) := by kernel_rfl
theorem ty196 : tyK Tryz.prog 196 = some (1, false) := by kernel_rfl
theorem ty197 : tyK Tryz.prog 197 = some (1, false) := by kernel_rfl
theorem ty198 : tyK Tryz.prog 198 = some (1, false) := by kernel_rfl
theorem ty199 : tyK Tryz.prog 199 = some (4, true) := by kernel_rfl
theorem ty2 : tyK Tryz.prog 2 = some (1, false) := by kernel_rfl
theorem ty200 : tyK Tryz.prog 200 = some (1, false) := by kernel_rfl
theorem ty201 : tyK Tryz.prog 201 = some (1, false) := by kernel_rfl
theorem ty202 : tyK Tryz.prog 202 = some (1, false) := by kernel_rfl
theorem ty203 : tyK Tryz.prog 203 = some (1, false) := by kernel_rfl
theorem ty204 : tyK Tryz.prog 204 = some (1, false) := by kernel_rfl
theorem ty205 : tyK Tryz.prog 205 = some (1, false) := by kernel_rfl
theorem ty206 : tyK Tryz.prog 206 = some (1, false) := by kernel_rfl
theorem ty207 : tyK Tryz.prog 207 = some (1, false) := by kernel_rfl
theorem ty208 : tyK Tryz.prog 208 = some (1, false) := by kernel_rfl
theorem ty209 : tyK Tryz.prog 209 = some (1, false) := by kernel_rfl
theorem ty21 : tyK Tryz.prog 21 = some (1, false) := by kernel_rfl
theorem ty210 : tyK Tryz.prog 210 = some (2, true) := by kernel_rfl
theorem ty211 : tyK Tryz.prog 211 = some (1, false) := by kernel_rfl
theorem ty212 : tyK Tryz.prog 212 = some (1, false) := by kernel_rfl
theorem ty213 : tyK Tryz.prog 213 = some (1, false) := by kernel_rfl
theorem ty214 : tyK Tryz.prog 214 = some (1, false) := by kernel_rfl
theorem ty215 : tyK Tryz.prog 215 = some (1, false) := by kernel_rfl
theorem ty216 : tyK Tryz.prog 216 = some (1, false) := by kernel_rfl
theorem ty217 : tyK Tryz.prog 217 = some (1, false) := by kernel_rfl
theorem ty218 : tyK Tryz.prog 218 = some (14, true) := by kernel_rfl
theorem ty219 : tyK Tryz.prog 219 = some (1, false) := by kernel_rfl
theorem ty22 : tyK Tryz.prog 22 = some (1, false) := by kernel_rfl
theorem ty220 : tyK Tryz.prog 220 = some (1, false) := by kernel_rfl
theorem ty221 : tyK Tryz.prog 221 = some (1, false) := by kernel_rfl
theorem ty222 : tyK Tryz.prog 222 = some (1, false) := by kernel_rfl
theorem ty223 : tyK Tryz.prog 223 = some (1, false) := by kernel_rfl
theorem ty224 : tyK Tryz.prog 224 = some (1, false) := by kernel_rfl
theorem ty225 : tyK Tryz.prog 225 = some (1, false) := by kernel_rfl
theorem ty227 : tyK Tryz.prog 227 = some (1, false) := by kernel_rfl
theorem ty228 : tyK Tryz.prog 228 = some (1, false) := by kernel_rfl
theorem ty229 : tyK Tryz.prog 229 = some (1, false) := by kernel_rfl
theorem ty23 : tyK Tryz.prog 23 = some (7, true) := by kernel_rfl
theorem ty231 : tyK Tryz.prog 231 = some (1, false) := by kernel_rfl
theorem ty232 : tyK Tryz.prog 232 = some (1, false) := by kernel_rfl
theorem ty233 : tyK Tryz.prog 233 = some (1, false) := by kernel_rfl
theorem ty234 : tyK Tryz.prog 234 = some (1, false) := by kernel_rfl
theorem ty236 : tyK Tryz.prog 236 = some (1, false) := by kernel_rfl
theorem ty237 : tyK Tryz.prog 237 = some (1, false) := by kernel_rfl
theorem ty238 : tyK Tryz.prog 238 = some (1, false) := by kernel_rfl
theorem ty239 : tyK Tryz.prog 239 = some (3, true) := by kernel_rfl
theorem ty24 : tyK Tryz.prog 24 = some (7, true) := by kernel_rfl
theorem ty240 : tyK Tryz.prog 240 = some (1, false) := by kernel_rfl
theorem ty241 : tyK Tryz.prog 241 = some (1, false) := by kernel_rfl
theorem ty242 : tyK Tryz.prog 242 = some (1, false) := by kernel_rfl
theorem ty243 : tyK Tryz.prog 243 = some (1, false) := by kernel_rfl
theorem ty244 : tyK Tryz.prog 244 = some (1, false) := by kernel_rfl
theorem ty245 : tyK Tryz.prog 245 = some (1, false) := by kernel_rfl
theorem ty246 : tyK Tryz.prog 246 = some (1, false) := by kernel_rfl
theorem ty247 : tyK Tryz.prog 247 = some (1, false) := by kernel_rfl
theorem ty248 : tyK Tryz.prog 248 = some (1, false) := by kernel_rfl
theorem ty249 : tyK Tryz.prog 249 = some (1, false) := by kernel_rfl
theorem ty25 : tyK Tryz.prog 25 = some (1, false) := by kernel_rfl
theorem ty250 : tyK Tryz.prog 250 = some (1, false) := by kernel_rfl
theorem ty251 : tyK Tryz.prog 251 = some (1, false) := by kernel_rfl
theorem ty252 : tyK Tryz.prog 252 = some (1, false) := by kernel_rfl
theorem ty253 : tyK Tryz.prog 253 = some (1, false) := by kernel_rfl
theorem ty254 : tyK Tryz.prog 254 = some (1, false) := by kernel_rfl
theorem ty255 : tyK Tryz.prog 255 = some (1, false) := by kernel_rfl
theorem ty256 : tyK Tryz.prog 256 = some (1, false) := by kernel_rfl
theorem ty257 : tyK Tryz.prog 257 = some (1, false) := by kernel_rfl
theorem ty258 : tyK Tryz.prog 258 = some (1, false) := by kernel_rfl
theorem ty259 : tyK Tryz.prog 259 = some (1, false) := by kernel_rfl
theorem ty26 : tyK Tryz.prog 26 = some (1, false) := by kernel_rfl
theorem ty260 : tyK Tryz.prog 260 = some (1, false) := by kernel_rfl
theorem ty261 : tyK Tryz.prog 261 = some (1, false) := by kernel_rfl
theorem ty262 : tyK Tryz.prog 262 = some (1, false) := by kernel_rfl
theorem ty263 : tyK Tryz.prog 263 = some (1, false) := by kernel_rfl
theorem ty264 : tyK Tryz.prog 264 = some (1, false) := by kernel_rfl
theorem ty265 : tyK Tryz.prog 265 = some (1, false) := by kernel_rfl
theorem ty266 : tyK Tryz.prog 266 = some (1, false) := by kernel_rfl
theorem ty267 : tyK Tryz.prog 267 = some (1, false) := by kernel_rfl
theorem ty269 : tyK Tryz.prog 269 = some (1, false) := by kernel_rfl
theorem ty27 : tyK Tryz.prog 27 = some (1, false) := by kernel_rfl
theorem ty270 : tyK Tryz.prog 270 = some (1, false) := by kernel_rfl
theorem ty271 : tyK Tryz.prog 271 = some (1, false) := by kernel_rfl
theorem ty272 : tyK Tryz.prog 272 = some (1, false) := by kernel_rfl
theorem ty273 : tyK Tryz.prog 273 = some (1, false) := by kernel_rfl
theorem ty274 : tyK Tryz.prog 274 = some (1, false) := by kernel_rfl
theorem ty275 : tyK Tryz.prog 275 = some (1, false) := by kernel_rfl
theorem ty276 : tyK Tryz.prog 276 = some (1, false) := by kernel_rfl
theorem ty277 : tyK Tryz.prog 277 = some (1, false) := by kernel_rfl
theorem ty278 : tyK Tryz.prog 278 = some (1, false) := by kernel_rfl
theorem ty279 : tyK Tryz.prog 279 = some (1, false) := by kernel_rfl
theorem ty28 : tyK Tryz.prog 28 = some (1, false) := by kernel_rfl
theorem ty280 : tyK Tryz.prog 280 = some (1, false) := by kernel_rfl
theorem ty281 : tyK Tryz.prog 281 = some (1, false) := by kernel_rfl
theorem ty282 : tyK Tryz.prog 282 = some (1, false) := by kernel_rfl
theorem ty283 : tyK Tryz.prog 283 = some (1, false) := by kernel_rfl
theorem ty284 : tyK Tryz.prog 284 = some (1, false) := by kernel_rfl
theorem ty285 : tyK Tryz.prog 285 = some (1, false) := by kernel_rfl
theorem ty286 : tyK Tryz.prog 286 = some (1, false) := by kernel_rfl
theorem ty287 : tyK Tryz.prog 287 = some (1, false) := by kernel_rfl
theorem ty288 : tyK Tryz.prog 288 = some (1, false) := by kernel_rfl
theorem ty289 : tyK Tryz.prog 289 = some (1, false) := by kernel_rfl
theorem ty29 : tyK Tryz.prog 29 = some (7, true) := by kernel_rfl
theorem ty290 : tyK Tryz.prog 290 = some (1, false) := by kernel_rfl
theorem ty291 : tyK Tryz.prog 291 = some (1, false) := by kernel_rfl
theorem ty292 : tyK Tryz.prog 292 = some (1, false) := by kernel_rfl
theorem ty293 : tyK Tryz.prog 293 = some (1, false) := by kernel_rfl
theorem ty294 : tyK Tryz.prog 294 = some (1, false) := by kernel_rfl
theorem ty295 : tyK Tryz.prog 295 = some (1, false) := by kernel_rfl
theorem ty296 : tyK Tryz.prog 296 = some (12, true) := by kernel_rfl
theorem ty297 : tyK Tryz.prog 297 = some (1, false) := by kernel_rfl
theorem ty298 : tyK Tryz.prog 298 = some (1, false) := by kernel_rfl
theorem ty299 : tyK Tryz.prog 299 = some (1, false) := by kernel_rfl
theorem ty3 : tyK Tryz.prog 3 = some (1, false) := by kernel_rfl
theorem ty30 : tyK Tryz.prog 30 = some (1, false) := by kernel_rfl
theorem ty300 : tyK Tryz.prog 300 = some (1, false) := by kernel_rfl
theorem ty301 : tyK Tryz.prog 301 = some (1, false) := by kernel_rfl
theorem ty302 : tyK Tryz.prog 302 = some (1, false) := by kernel_rfl
theorem ty303 : tyK Tryz.prog 303 = some (1, false) := by kernel_rfl
theorem ty305 : tyK Tryz.prog 305 = some (1, false) := by kernel_rfl
theorem ty306 : tyK Tryz.prog 306 = some (1, false) := by kernel_rfl
theorem ty307 : tyK Tryz.prog 307 = some (1, false) := by kernel_rfl
theorem ty308 : tyK Tryz.prog 308 = some (1, false) := by kernel_rfl
theorem ty31 : tyK Tryz.prog 31 = some (1, false) := by kernel_rfl
theorem ty314 : tyK Tryz.prog 314 = some (1, false) := by kernel_rfl
theorem ty315 : tyK Tryz.prog 315 = some (1, false) := by kernel_rfl
theorem ty316 : tyK Tryz.prog 316 = some (1, false) := by kernel_rfl
theorem ty317 : tyK Tryz.prog 317 = some (1, false) := by kernel_rfl
theorem ty318 : tyK Tryz.prog 318 = some (1, false) := by kernel_rfl
theorem ty319 : tyK Tryz.prog 319 = some (1, false) := by kernel_rfl
theorem ty32 : tyK Tryz.prog 32 = some (1, false) := by kernel_rfl
theorem ty33 : tyK Tryz.prog 33 = some (1, false) := by kernel_rfl
theorem ty34 : tyK Tryz.prog 34 = some (1, false) := by kernel_rfl
theorem ty35 : tyK Tryz.prog 35 = some (1, false) := by kernel_rfl
theorem ty36 : tyK Tryz.prog 36 = some (1, false) := by kernel_rfl
theorem ty37 : tyK Tryz.prog 37 = some (1, false) := by kernel_rfl
theorem ty38 : tyK Tryz.prog 38 = some (1, false) := by kernel_rfl
theorem ty39 : tyK Tryz.prog 39 = some (1, false) := by kernel_rfl
theorem ty4 : tyK Tryz.prog 4 = some (1, false) := by kernel_rfl
theorem ty40 : tyK Tryz.prog 40 = some (1, false) := by kernel_rfl
theorem ty41 : tyK Tryz.prog 41 = some (1, false) := by kernel_rfl
theorem ty42 : tyK Tryz.prog 42 = some (1, false) := by kernel_rfl
theorem ty43 : tyK Tryz.prog 43 = some (1, false) := by kernel_rfl
theorem ty44 : tyK Tryz.prog 44 = some (1, false) := by kernel_rfl
theorem ty45 : tyK Tryz.prog 45 = some (3, true) := by kernel_rfl
theorem ty46 : tyK Tryz.prog 46 = some (3, true) := by kernel_rfl
theorem ty47 : tyK Tryz.prog 47 = some (6, true) := by kernel_rfl
theorem ty48 : tyK Tryz.prog 48 = some (6, true) := by kernel_rfl
theorem ty5 : tyK Tryz.prog 5 = some (1, false) := by kernel_rfl
theorem ty50 : tyK Tryz.prog 50 = some (1, false) := by kernel_rfl
theorem ty51 : tyK Tryz.prog 51 = some (1, false) := by kernel_rfl
theorem ty52 : tyK Tryz.prog 52 = some (1, false) := by kernel_rfl
theorem ty53 : tyK Tryz.prog 53 = some (1, false) := by kernel_rfl
theorem ty54 : tyK Tryz.prog 54 = some (1, false) := by kernel_rfl
theorem ty55 : tyK Tryz.prog 55 = some (2, true) := by kernel_rfl
theorem ty56 : tyK Tryz.prog 56 = some (2, true) := by kernel_rfl
theorem ty58 : tyK Tryz.prog 58 = some (1, false) := by kernel_rfl
theorem ty6 : tyK Tryz.prog 6 = some (1, false) := by kernel_rfl
theorem ty60 : tyK Tryz.prog 60 = some (1, false) := by kernel_rfl
theorem ty61 : tyK Tryz.prog 61 = some (1, false) := by kernel_rfl
theorem ty62 : tyK Tryz.prog 62 = some (1, false) := by kernel_rfl
theorem ty63 : tyK Tryz.prog 63 = some (2, true) := by kernel_rfl
theorem ty64 : tyK Tryz.prog 64 = some (1, false) := by kernel_rfl
theorem ty65 : tyK Tryz.prog 65 = some (1, false) := by kernel_rfl
theorem ty66 : tyK Tryz.prog 66 = some (1, false) := by kernel_rfl
theorem ty67 : tyK Tryz.prog 67 = some (2, true) := by kernel_rfl
theorem ty68 : tyK Tryz.prog 68 = some (2, true) := by kernel_rfl
theorem ty69 : tyK Tryz.prog 69 = some (1, false) := by kernel_rfl
theorem ty7 : tyK Tryz.prog 7 = some (4, true) := by kernel_rfl
theorem ty71 : tyK Tryz.prog 71 = some (1, false) := by kernel_rfl
theorem ty72 : tyK Tryz.prog 72 = some (1, false) := by kernel_rfl
theorem ty73 : tyK Tryz.prog 73 = some (1, false) := by kernel_rfl
theorem ty74 : tyK Tryz.prog 74 = some (2, true) := by kernel_rfl
theorem ty76 : tyK Tryz.prog 76 = some (1, false) := by kernel_rfl
theorem ty77 : tyK Tryz.prog 77 = some (1, false) := by kernel_rfl
theorem ty78 : tyK Tryz.prog 78 = some (1, false) := by kernel_rfl
theorem ty79 : tyK Tryz.prog 79 = some (1, false) := by kernel_rfl
theorem ty8 : tyK Tryz.prog 8 = some (4, true) := by kernel_rfl
theorem ty81 : tyK Tryz.prog 81 = some (1, false) := by kernel_rfl
theorem ty82 : tyK Tryz.prog 82 = some (1, false) := by kernel_rfl
theorem ty84 : tyK Tryz.prog 84 = some (1, false) := by kernel_rfl
theorem ty85 : tyK Tryz.prog 85 = some (1, false) := by kernel_rfl
theorem ty86 : tyK Tryz.prog 86 = some (1, false) := by kernel_rfl
theorem ty87 : tyK Tryz.prog 87 = some (1, false) := by kernel_rfl
theorem ty88 : tyK Tryz.prog 88 = some (1, false) := by kernel_rfl
theorem ty89 : tyK Tryz.prog 89 = some (1, false) := by kernel_rfl
theorem ty9 : tyK Tryz.prog 9 = some (1, false) := by kernel_rfl
theorem ty90 : tyK Tryz.prog 90 = some (1, false) := by kernel_rfl
theorem ty91 : tyK Tryz.prog 91 = some (1, false) := by kernel_rfl
theorem ty92 : tyK Tryz.prog 92 = some (1, false) := by kernel_rfl
theorem ty93 : tyK Tryz.prog 93 = some (1, false) := by kernel_rfl
theorem ty94 : tyK Tryz.prog 94 = some (1, false) := by kernel_rfl
theorem ty95 : tyK Tryz.prog 95 = some (1, false) := by kernel_rfl
theorem ty97 : tyK Tryz.prog 97 = some (1, false) := by kernel_rfl
theorem ty99 : tyK Tryz.prog 99 = some (1, false) := by kernel_rfl
theorem z10 : zeroK Tryz.prog 10 = some [.string ByteArray.empty] := by kernel_rfl
theorem z104 : zeroK Tryz.prog 104 = some [.string ByteArray.empty, .string ByteArray.empty, .int .i64 0, .string ByteArray.empty, .int .i64 0, .int .i64 0, .string ByteArray.empty, .int .i64 0] := by kernel_rfl
theorem z105 : zeroK Tryz.prog 105 = some [.string ByteArray.empty, .string ByteArray.empty, .int .i64 0, .string ByteArray.empty, .int .i64 0, .int .i64 0, .string ByteArray.empty, .int .i64 0] := by kernel_rfl
theorem z107 : zeroK Tryz.prog 107 = some [.slice none 0 0] := by kernel_rfl
theorem z11 : zeroK Tryz.prog 11 = some [.string ByteArray.empty] := by kernel_rfl
theorem z110 : zeroK Tryz.prog 110 = some [.string ByteArray.empty, .int .i64 0, .int .i64 0, .bool false] := by kernel_rfl
theorem z111 : zeroK Tryz.prog 111 = some [.string ByteArray.empty, .int .i64 0, .int .i64 0, .bool false] := by kernel_rfl
theorem z112 : zeroK Tryz.prog 112 = some [.slice none 0 0] := by kernel_rfl
theorem z113 : zeroK Tryz.prog 113 = some [.slice none 0 0, .int .i64 0, .string ByteArray.empty] := by kernel_rfl
theorem z114 : zeroK Tryz.prog 114 = some [.slice none 0 0, .int .i64 0, .string ByteArray.empty] := by kernel_rfl
theorem z115 : zeroK Tryz.prog 115 = some [.string ByteArray.empty, .string ByteArray.empty, .string ByteArray.empty, .string ByteArray.empty, .string ByteArray.empty, .string ByteArray.empty, .int .i64 0, .int .i64 0, .int .i64 0, .int .i64 0, .int .i64 0, .int .i64 0, .int .i64 0] := by kernel_rfl
theorem z116 : zeroK Tryz.prog 116 = some [.string ByteArray.empty, .string ByteArray.empty, .string ByteArray.empty, .string ByteArray.empty, .string ByteArray.empty, .string ByteArray.empty, .int .i64 0, .int .i64 0, .int .i64 0, .int .i64 0, .int .i64 0, .int .i64 0, .int .i64 0] := by kernel_rfl
theorem z117 : zeroK Tryz.prog 117 = some [.slice none 0 0] := by kernel_rfl
theorem z12 : zeroK Tryz.prog 12 = some [.int .u64 0] := by kernel_rfl
theorem z121 : zeroK Tryz.prog 121 = some [.slice none 0 0] := by kernel_rfl
theorem z13 : zeroK Tryz.prog 13 = some [.string ByteArray.empty, .int .u64 0] := by kernel_rfl
theorem z131 : zeroK Tryz.prog 131 = some [.string ByteArray.empty, .slice none 0 0] := by kernel_rfl
theorem z132 : zeroK Tryz.prog 132 = some [.string ByteArray.empty, .slice none 0 0] := by kernel_rfl
theorem z134 : zeroK Tryz.prog 134 = some [.slice none 0 0] := by kernel_rfl
theorem z137 : zeroK Tryz.prog 137 = some [.string ByteArray.empty, .int .i64 0, .int .i64 0, .bool false] := by kernel_rfl
theorem z138 : zeroK Tryz.prog 138 = some [.string ByteArray.empty, .int .i64 0, .int .i64 0, .bool false] := by kernel_rfl
theorem z139 : zeroK Tryz.prog 139 = some [.slice none 0 0, .slice none 0 0] := by kernel_rfl
theorem z14 : zeroK Tryz.prog 14 = some [.string ByteArray.empty, .int .u64 0] := by kernel_rfl
theorem z140 : zeroK Tryz.prog 140 = some [.slice none 0 0, .slice none 0 0] := by kernel_rfl
theorem z141 : zeroK Tryz.prog 141 = some [.slice none 0 0, .slice none 0 0, .slice none 0 0, .slice none 0 0, .slice none 0 0] := by kernel_rfl
theorem z142 : zeroK Tryz.prog 142 = some [.slice none 0 0, .slice none 0 0, .slice none 0 0, .slice none 0 0, .slice none 0 0] := by kernel_rfl
theorem z149 : zeroK Tryz.prog 149 = some [.slice none 0 0, .slice none 0 0] := by kernel_rfl
theorem z151 : zeroK Tryz.prog 151 = some [.string ByteArray.empty, .int .i64 0, .string ByteArray.empty] := by kernel_rfl
theorem z152 : zeroK Tryz.prog 152 = some [.string ByteArray.empty, .int .i64 0, .string ByteArray.empty] := by kernel_rfl
theorem z154 : zeroK Tryz.prog 154 = some [.int .i64 0, .int .i64 0] := by kernel_rfl
theorem z155 : zeroK Tryz.prog 155 = some [.int .i64 0, .int .i64 0] := by kernel_rfl
theorem z158 : zeroK Tryz.prog 158 = some [.int .i64 0, .int .i64 0] := by kernel_rfl
theorem z160 : zeroK Tryz.prog 160 = some [.string ByteArray.empty, .int .i64 0, .string ByteArray.empty] := by kernel_rfl
theorem z161 : zeroK Tryz.prog 161 = some [.string ByteArray.empty, .string ByteArray.empty, .int .i64 0, .string ByteArray.empty, .int .i64 0, .int .i64 0, .string ByteArray.empty, .int .i64 0] := by kernel_rfl
theorem z170 : zeroK Tryz.prog 170 = some [.slice none 0 0] := by kernel_rfl
theorem z199 : zeroK Tryz.prog 199 = some [.string ByteArray.empty, .string ByteArray.empty, .string ByteArray.empty, .string ByteArray.empty] := by kernel_rfl
theorem z2 : zeroK Tryz.prog 2 = some [.int .i64 0] := by kernel_rfl
theorem z21 : zeroK Tryz.prog 21 = some [.int .i32 0] := by kernel_rfl
theorem z210 : zeroK Tryz.prog 210 = some [.string ByteArray.empty, .slice none 0 0] := by kernel_rfl
theorem z218 : zeroK Tryz.prog 218 = some [.int .i64 0, .int .i64 0, .int .i64 0, .int .i64 0, .int .i64 0, .int .i64 0, .int .i64 0, .int .i64 0, .int .i64 0, .int .i64 0, .int .i64 0, .int .i64 0, .int .i64 0, .int .i64 0] := by kernel_rfl
theorem z22 : zeroK Tryz.prog 22 = some [.slice none 0 0] := by kernel_rfl
theorem z225 : zeroK Tryz.prog 225 = some [.slice none 0 0] := by kernel_rfl
theorem z23 : zeroK Tryz.prog 23 = some [.int .i64 0, .int .i64 0, .int .i64 0, .int .i64 0, .slice none 0 0, .int .i64 0, .int .i64 0] := by kernel_rfl
theorem z239 : zeroK Tryz.prog 239 = some [.int .i64 0, .int .i64 0, .int .i64 0] := by kernel_rfl
theorem z24 : zeroK Tryz.prog 24 = some [.int .i64 0, .int .i64 0, .int .i64 0, .int .i64 0, .slice none 0 0, .int .i64 0, .int .i64 0] := by kernel_rfl
theorem z25 : zeroK Tryz.prog 25 = some [.slice none 0 0] := by kernel_rfl
theorem z257 : zeroK Tryz.prog 257 = some [.int .u64 0] := by kernel_rfl
theorem z26 : zeroK Tryz.prog 26 = some [.slice none 0 0] := by kernel_rfl
theorem z267 : zeroK Tryz.prog 267 = some [.int .i64 0] := by kernel_rfl
theorem z274 : zeroK Tryz.prog 274 = some [.int .u32 0] := by kernel_rfl
theorem z276 : zeroK Tryz.prog 276 = some [.int .u64 0] := by kernel_rfl
theorem z29 : zeroK Tryz.prog 29 = some [.int .i64 0, .int .i64 0, .int .i64 0, .int .i64 0, .slice none 0 0, .int .i64 0, .int .i64 0] := by kernel_rfl
theorem z290 : zeroK Tryz.prog 290 = some [.int .u64 0] := by kernel_rfl
theorem z296 : zeroK Tryz.prog 296 = some [.int .i64 0, .int .i64 0, .int .i64 0, .int .i64 0, .int .i64 0, .int .i64 0, .int .i64 0, .int .i64 0, .int .i64 0, .int .i64 0, .int .i64 0, .int .i64 0] := by kernel_rfl
theorem z3 : zeroK Tryz.prog 3 = some [.int .i64 0] := by kernel_rfl
theorem z314 : zeroK Tryz.prog 314 = some [.int .u8 0] := by kernel_rfl
theorem z315 : zeroK Tryz.prog 315 = some [.int .u8 0] := by kernel_rfl
theorem z318 : zeroK Tryz.prog 318 = some [.int .i32 0] := by kernel_rfl
theorem z319 : zeroK Tryz.prog 319 = some [.int .i32 0] := by kernel_rfl
theorem z32 : zeroK Tryz.prog 32 = some [.slice none 0 0] := by kernel_rfl
theorem z35 : zeroK Tryz.prog 35 = some [.slice none 0 0] := by kernel_rfl
theorem z37 : zeroK Tryz.prog 37 = some [.int .i64 0] := by kernel_rfl
theorem z4 : zeroK Tryz.prog 4 = some [.bool false] := by kernel_rfl
theorem z45 : zeroK Tryz.prog 45 = some [.int .i64 0, .int .i64 0, .int .i64 0] := by kernel_rfl
theorem z46 : zeroK Tryz.prog 46 = some [.int .i64 0, .int .i64 0, .int .i64 0] := by kernel_rfl
theorem z47 : zeroK Tryz.prog 47 = some [.string ByteArray.empty, .string ByteArray.empty, .int .i64 0, .int .i64 0, .int .i64 0, .int .i64 0] := by kernel_rfl
theorem z48 : zeroK Tryz.prog 48 = some [.string ByteArray.empty, .string ByteArray.empty, .int .i64 0, .int .i64 0, .int .i64 0, .int .i64 0] := by kernel_rfl
theorem z5 : zeroK Tryz.prog 5 = some [.int .u8 0] := by kernel_rfl
theorem z55 : zeroK Tryz.prog 55 = some [.int .i64 0, .int .i64 0] := by kernel_rfl
theorem z56 : zeroK Tryz.prog 56 = some [.int .i64 0, .int .i64 0] := by kernel_rfl
theorem z6 : zeroK Tryz.prog 6 = some [.int .u8 0] := by kernel_rfl
theorem z63 : zeroK Tryz.prog 63 = some [.int .i64 0, .int .i64 0] := by kernel_rfl
theorem z67 : zeroK Tryz.prog 67 = some [.int .i64 0, .string ByteArray.empty] := by kernel_rfl
theorem z68 : zeroK Tryz.prog 68 = some [.int .i64 0, .string ByteArray.empty] := by kernel_rfl
theorem z69 : zeroK Tryz.prog 69 = some [.slice none 0 0] := by kernel_rfl
theorem z7 : zeroK Tryz.prog 7 = some [.int .i64 0, .int .i64 0, .bool false, .int .u8 0] := by kernel_rfl
theorem z74 : zeroK Tryz.prog 74 = some [.int .i64 0, .string ByteArray.empty] := by kernel_rfl
theorem z79 : zeroK Tryz.prog 79 = some [.slice none 0 0] := by kernel_rfl
theorem z8 : zeroK Tryz.prog 8 = some [.int .i64 0, .int .i64 0, .bool false, .int .u8 0] := by kernel_rfl
theorem z82 : zeroK Tryz.prog 82 = some [.slice none 0 0] := by kernel_rfl
theorem z89 : zeroK Tryz.prog 89 = some [.slice none 0 0] := by kernel_rfl
theorem z9 : zeroK Tryz.prog 9 = some [.string ByteArray.empty] := by kernel_rfl
theorem flat104 : flatK Tryz.prog 60 104 = some [.str, .str, .int .i64, .str, .int .i64, .int .i64, .str, .int .i64] ∧ structB Tryz.prog 104 = true ∧ Tryz.prog.eqGuardType Tryz.prog.depth 104 = false := ⟨by kernel_rfl, by kernel_rfl, by kernel_rfl⟩
theorem flat105 : flatK Tryz.prog 60 105 = some [.str, .str, .int .i64, .str, .int .i64, .int .i64, .str, .int .i64] ∧ structB Tryz.prog 105 = true ∧ Tryz.prog.eqGuardType Tryz.prog.depth 105 = false := ⟨by kernel_rfl, by kernel_rfl, by kernel_rfl⟩
theorem flat110 : flatK Tryz.prog 60 110 = some [.str, .int .i64, .int .i64, .bool] ∧ structB Tryz.prog 110 = true ∧ Tryz.prog.eqGuardType Tryz.prog.depth 110 = false := ⟨by kernel_rfl, by kernel_rfl, by kernel_rfl⟩
theorem flat111 : flatK Tryz.prog 60 111 = some [.str, .int .i64, .int .i64, .bool] ∧ structB Tryz.prog 111 = true ∧ Tryz.prog.eqGuardType Tryz.prog.depth 111 = false := ⟨by kernel_rfl, by kernel_rfl, by kernel_rfl⟩
theorem flat115 : flatK Tryz.prog 60 115 = some [.str, .str, .str, .str, .str, .str, .int .i64, .int .i64, .int .i64, .int .i64, .int .i64, .int .i64, .int .i64] ∧ structB Tryz.prog 115 = true ∧ Tryz.prog.eqGuardType Tryz.prog.depth 115 = false := ⟨by kernel_rfl, by kernel_rfl, by kernel_rfl⟩
theorem flat116 : flatK Tryz.prog 60 116 = some [.str, .str, .str, .str, .str, .str, .int .i64, .int .i64, .int .i64, .int .i64, .int .i64, .int .i64, .int .i64] ∧ structB Tryz.prog 116 = true ∧ Tryz.prog.eqGuardType Tryz.prog.depth 116 = false := ⟨by kernel_rfl, by kernel_rfl, by kernel_rfl⟩
theorem flat137 : flatK Tryz.prog 60 137 = some [.str, .int .i64, .int .i64, .bool] ∧ structB Tryz.prog 137 = true ∧ Tryz.prog.eqGuardType Tryz.prog.depth 137 = false := ⟨by kernel_rfl, by kernel_rfl, by kernel_rfl⟩
theorem flat138 : flatK Tryz.prog 60 138 = some [.str, .int .i64, .int .i64, .bool] ∧ structB Tryz.prog 138 = true ∧ Tryz.prog.eqGuardType Tryz.prog.depth 138 = false := ⟨by kernel_rfl, by kernel_rfl, by kernel_rfl⟩
theorem flat151 : flatK Tryz.prog 60 151 = some [.str, .int .i64, .str] ∧ structB Tryz.prog 151 = true ∧ Tryz.prog.eqGuardType Tryz.prog.depth 151 = false := ⟨by kernel_rfl, by kernel_rfl, by kernel_rfl⟩
theorem flat152 : flatK Tryz.prog 60 152 = some [.str, .int .i64, .str] ∧ structB Tryz.prog 152 = true ∧ Tryz.prog.eqGuardType Tryz.prog.depth 152 = false := ⟨by kernel_rfl, by kernel_rfl, by kernel_rfl⟩
theorem flat154 : flatK Tryz.prog 60 154 = some [.int .i64, .int .i64] ∧ structB Tryz.prog 154 = true ∧ Tryz.prog.eqGuardType Tryz.prog.depth 154 = false := ⟨by kernel_rfl, by kernel_rfl, by kernel_rfl⟩
theorem flat155 : flatK Tryz.prog 60 155 = some [.int .i64, .int .i64] ∧ structB Tryz.prog 155 = true ∧ Tryz.prog.eqGuardType Tryz.prog.depth 155 = false := ⟨by kernel_rfl, by kernel_rfl, by kernel_rfl⟩
theorem flat158 : flatK Tryz.prog 60 158 = some [.int .i64, .int .i64] ∧ structB Tryz.prog 158 = true ∧ Tryz.prog.eqGuardType Tryz.prog.depth 158 = false := ⟨by kernel_rfl, by kernel_rfl, by kernel_rfl⟩
theorem flat160 : flatK Tryz.prog 60 160 = some [.str, .int .i64, .str] ∧ structB Tryz.prog 160 = true ∧ Tryz.prog.eqGuardType Tryz.prog.depth 160 = false := ⟨by kernel_rfl, by kernel_rfl, by kernel_rfl⟩
theorem flat161 : flatK Tryz.prog 60 161 = some [.str, .str, .int .i64, .str, .int .i64, .int .i64, .str, .int .i64] ∧ structB Tryz.prog 161 = true ∧ Tryz.prog.eqGuardType Tryz.prog.depth 161 = false := ⟨by kernel_rfl, by kernel_rfl, by kernel_rfl⟩
theorem flat45 : flatK Tryz.prog 60 45 = some [.int .i64, .int .i64, .int .i64] ∧ structB Tryz.prog 45 = true ∧ Tryz.prog.eqGuardType Tryz.prog.depth 45 = false := ⟨by kernel_rfl, by kernel_rfl, by kernel_rfl⟩
theorem flat46 : flatK Tryz.prog 60 46 = some [.int .i64, .int .i64, .int .i64] ∧ structB Tryz.prog 46 = true ∧ Tryz.prog.eqGuardType Tryz.prog.depth 46 = false := ⟨by kernel_rfl, by kernel_rfl, by kernel_rfl⟩
theorem flat47 : flatK Tryz.prog 60 47 = some [.str, .str, .int .i64, .int .i64, .int .i64, .int .i64] ∧ structB Tryz.prog 47 = true ∧ Tryz.prog.eqGuardType Tryz.prog.depth 47 = false := ⟨by kernel_rfl, by kernel_rfl, by kernel_rfl⟩
theorem flat48 : flatK Tryz.prog 60 48 = some [.str, .str, .int .i64, .int .i64, .int .i64, .int .i64] ∧ structB Tryz.prog 48 = true ∧ Tryz.prog.eqGuardType Tryz.prog.depth 48 = false := ⟨by kernel_rfl, by kernel_rfl, by kernel_rfl⟩
theorem flat55 : flatK Tryz.prog 60 55 = some [.int .i64, .int .i64] ∧ structB Tryz.prog 55 = true ∧ Tryz.prog.eqGuardType Tryz.prog.depth 55 = false := ⟨by kernel_rfl, by kernel_rfl, by kernel_rfl⟩
theorem flat56 : flatK Tryz.prog 60 56 = some [.int .i64, .int .i64] ∧ structB Tryz.prog 56 = true ∧ Tryz.prog.eqGuardType Tryz.prog.depth 56 = false := ⟨by kernel_rfl, by kernel_rfl, by kernel_rfl⟩
theorem flat63 : flatK Tryz.prog 60 63 = some [.int .i64, .int .i64] ∧ structB Tryz.prog 63 = true ∧ Tryz.prog.eqGuardType Tryz.prog.depth 63 = false := ⟨by kernel_rfl, by kernel_rfl, by kernel_rfl⟩
theorem flat67 : flatK Tryz.prog 60 67 = some [.int .i64, .str] ∧ structB Tryz.prog 67 = true ∧ Tryz.prog.eqGuardType Tryz.prog.depth 67 = false := ⟨by kernel_rfl, by kernel_rfl, by kernel_rfl⟩
theorem flat68 : flatK Tryz.prog 60 68 = some [.int .i64, .str] ∧ structB Tryz.prog 68 = true ∧ Tryz.prog.eqGuardType Tryz.prog.depth 68 = false := ⟨by kernel_rfl, by kernel_rfl, by kernel_rfl⟩
theorem flat74 : flatK Tryz.prog 60 74 = some [.int .i64, .str] ∧ structB Tryz.prog 74 = true ∧ Tryz.prog.eqGuardType Tryz.prog.depth 74 = false := ⟨by kernel_rfl, by kernel_rfl, by kernel_rfl⟩
theorem mk107 : mkK Tryz.prog 107 = some (111, 4, 40, [.string ByteArray.empty, .int .i64 0, .int .i64 0, .bool false]) := by kernel_rfl
theorem mk112 : mkK Tryz.prog 112 = some (116, 13, 152, [.string ByteArray.empty, .string ByteArray.empty, .string ByteArray.empty, .string ByteArray.empty, .string ByteArray.empty, .string ByteArray.empty, .int .i64 0, .int .i64 0, .int .i64 0, .int .i64 0, .int .i64 0, .int .i64 0, .int .i64 0]) := by kernel_rfl
theorem mk117 : mkK Tryz.prog 117 = some (132, 2, 40, [.string ByteArray.empty, .slice none 0 0]) := by kernel_rfl
theorem mk121 : mkK Tryz.prog 121 = some (210, 2, 40, [.string ByteArray.empty, .slice none 0 0]) := by kernel_rfl
theorem mk134 : mkK Tryz.prog 134 = some (138, 4, 40, [.string ByteArray.empty, .int .i64 0, .int .i64 0, .bool false]) := by kernel_rfl
theorem mk170 : mkK Tryz.prog 170 = some (37, 1, 8, [.int .i64 0]) := by kernel_rfl
theorem mk22 : mkK Tryz.prog 22 = some (9, 1, 16, [.string ByteArray.empty]) := by kernel_rfl
theorem mk225 : mkK Tryz.prog 225 = some (4, 1, 1, [.bool false]) := by kernel_rfl
theorem mk25 : mkK Tryz.prog 25 = some (152, 3, 40, [.string ByteArray.empty, .int .i64 0, .string ByteArray.empty]) := by kernel_rfl
theorem mk26 : mkK Tryz.prog 26 = some (105, 8, 96, [.string ByteArray.empty, .string ByteArray.empty, .int .i64 0, .string ByteArray.empty, .int .i64 0, .int .i64 0, .string ByteArray.empty, .int .i64 0]) := by kernel_rfl
theorem mk32 : mkK Tryz.prog 32 = some (160, 3, 40, [.string ByteArray.empty, .int .i64 0, .string ByteArray.empty]) := by kernel_rfl
theorem mk35 : mkK Tryz.prog 35 = some (161, 8, 96, [.string ByteArray.empty, .string ByteArray.empty, .int .i64 0, .string ByteArray.empty, .int .i64 0, .int .i64 0, .string ByteArray.empty, .int .i64 0]) := by kernel_rfl
theorem mk69 : mkK Tryz.prog 69 = some (46, 3, 24, [.int .i64 0, .int .i64 0, .int .i64 0]) := by kernel_rfl
theorem mk79 : mkK Tryz.prog 79 = some (155, 2, 16, [.int .i64 0, .int .i64 0]) := by kernel_rfl
theorem mk82 : mkK Tryz.prog 82 = some (3, 1, 8, [.int .i64 0]) := by kernel_rfl
theorem mk89 : mkK Tryz.prog 89 = some (158, 2, 16, [.int .i64 0, .int .i64 0]) := by kernel_rfl
theorem zr3 : (Tryz.prog.info? 3).bind (·.zero) = some (.int .i64 0) := by kernel_rfl
theorem zr4 : (Tryz.prog.info? 4).bind (·.zero) = some (.bool false) := by kernel_rfl
theorem zr56 : (Tryz.prog.info? 56).bind (·.zero) = some (.agg #[.int .i64 0, .int .i64 0]) := by kernel_rfl
end Go.Sim

