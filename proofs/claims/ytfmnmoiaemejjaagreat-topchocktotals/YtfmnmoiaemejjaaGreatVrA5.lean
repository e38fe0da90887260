/-
  What is proved: facts of the types and the functions, and the structures of the program.
-/
import Derived.Test.YtfmnmoiaemejjaaGreatVrA3
set_option linter.unusedSectionVars false
set_option linter.unusedSimpArgs false
set_option linter.unusedVariables false
set_option linter.unnecessarySimpa false
set_option linter.deprecated false
set_option maxRecDepth 10000
namespace Go.Sim
open Go.Proofs
structure S7 where
 x : Int
 y : Int
 signed : Bool
 code : Int
 deriving DecidableEq, Inhabited
abbrev S7.c (x : S7) : List G := [G.int x.x, G.int x.y, G.bool x.signed, G.lit (.int .u8 x.code)]
structure S13 where
 msg : ByteArray
 addr : Int
 deriving DecidableEq, Inhabited
abbrev S13.c (x : S13) : List G := [G.str x.msg, G.lit (.int .u64 x.addr)]
structure S45 where
 fFrom : Int
 fTo : Int
 Days : Int
 deriving DecidableEq, Inhabited
abbrev S45.c (x : S45) : List G := [G.int x.fFrom, G.int x.fTo, G.int x.Days]
structure S115 where
 Name : ByteArray
 Carrier : ByteArray
 Kind : ByteArray
 Terminal : ByteArray
 Partner : ByteArray
 Link : ByteArray
 Period : S45
 Minute : Int
 Seats : Int
 Size : Int
 Noise : Int
 deriving DecidableEq, Inhabited
abbrev S115.c (x : S115) : List G := [G.str x.Name, G.str x.Carrier, G.str x.Kind, G.str x.Terminal, G.str x.Partner, G.str x.Link, G.int x.Period.fFrom, G.int x.Period.fTo, G.int x.Period.Days, G.int x.Minute, G.int x.Seats, G.int x.Size, G.int x.Noise]
structure S5102 where
 Carrier : ByteArray
 fFrom : Int
 fTo : Int
 deriving DecidableEq, Inhabited
abbrev S5102.c (x : S5102) : List G := [G.str x.Carrier, G.int x.fFrom, G.int x.fTo]
structure S5036 where
 Request : S115
 Holder : ByteArray
 Leases : List S5102
 Shares : List ByteArray
 deriving DecidableEq, Inhabited
abbrev S5036.c (x : S5036) : List G := [G.str x.Request.Name, G.str x.Request.Carrier, G.str x.Request.Kind, G.str x.Request.Terminal, G.str x.Request.Partner, G.str x.Request.Link, G.int x.Request.Period.fFrom, G.int x.Request.Period.fTo, G.int x.Request.Period.Days, G.int x.Request.Minute, G.int x.Request.Seats, G.int x.Request.Size, G.int x.Request.Noise, G.str x.Holder, G.sl 3 (List.map S5102.c x.Leases), G.sl 1 (List.map cStr x.Shares)]
structure S5072 where
 Request : S115
 Rank : Int
 deriving DecidableEq, Inhabited
abbrev S5072.c (x : S5072) : List G := [G.str x.Request.Name, G.str x.Request.Carrier, G.str x.Request.Kind, G.str x.Request.Terminal, G.str x.Request.Partner, G.str x.Request.Link, G.int x.Request.Period.fFrom, G.int x.Request.Period.fTo, G.int x.Request.Period.Days, G.int x.Request.Minute, G.int x.Request.Seats, G.int x.Request.Size, G.int x.Request.Noise, G.int x.Rank]
structure S5025 where
 Slots : List S5036
 Waiting : List S5072
 deriving DecidableEq, Inhabited
abbrev S5025.c (x : S5025) : List G := [G.sl 16 (List.map S5036.c x.Slots), G.sl 14 (List.map S5072.c x.Waiting)]
structure S5100 where
 Request : S115
 Holder : ByteArray
 Leases : List S5102
 Shares : List ByteArray
 deriving DecidableEq, Inhabited
abbrev S5100.c (x : S5100) : List G := [G.str x.Request.Name, G.str x.Request.Carrier, G.str x.Request.Kind, G.str x.Request.Terminal, G.str x.Request.Partner, G.str x.Request.Link, G.int x.Request.Period.fFrom, G.int x.Request.Period.fTo, G.int x.Request.Period.Days, G.int x.Request.Minute, G.int x.Request.Seats, G.int x.Request.Size, G.int x.Request.Noise, G.str x.Holder, G.sl 3 (List.map S5102.c x.Leases), G.sl 1 (List.map cStr x.Shares)]
structure S5042 where
 Slots : List S5100
 Waiting : List S5072
 deriving DecidableEq, Inhabited
abbrev S5042.c (x : S5042) : List G := [G.sl 16 (List.map S5100.c x.Slots), G.sl 14 (List.map S5072.c x.Waiting)]
structure S1079 where
 Moment : Int
 Kind : ByteArray
 Terminal : ByteArray
 Seats : Int
 Size : Int
 Noise : Int
 Name : ByteArray
 deriving DecidableEq, Inhabited
abbrev S1079.c (x : S1079) : List G := [G.int x.Moment, G.str x.Kind, G.str x.Terminal, G.int x.Seats, G.int x.Size, G.int x.Noise, G.str x.Name]
structure S2068 where
 Limit : Int
 Begin : Int
 Count : Int
 deriving DecidableEq, Inhabited
abbrev S2068.c (x : S2068) : List G := [G.int x.Limit, G.int x.Begin, G.int x.Count]
structure S2062 where
 Name : ByteArray
 Kind : ByteArray
 Terminal : ByteArray
 Length : Int
 Step : Int
 fFrom : Int
 fTo : Int
 Period : S45
 Most : Int
 deriving DecidableEq, Inhabited
abbrev S2062.c (x : S2062) : List G := [G.str x.Name, G.str x.Kind, G.str x.Terminal, G.int x.Length, G.int x.Step, G.int x.fFrom, G.int x.fTo, G.int x.Period.fFrom, G.int x.Period.fTo, G.int x.Period.Days, G.int x.Most]
theorem K102 : zf Tryz.prog 48 := ⟨_, Tryz.func48, by kernel_rfl, by kernel_rfl⟩
theorem K104 : zf Tryz.prog 8 := ⟨_, Tryz.func8, by kernel_rfl, by kernel_rfl⟩
theorem K109 : zf Tryz.prog 177 := ⟨_, Tryz.func177, by kernel_rfl, by kernel_rfl⟩
theorem zfo : zf Tryz.prog 148 := ⟨_, Tryz.func148, by kernel_rfl, by kernel_rfl⟩
theorem zfp : zf Tryz.prog 149 := ⟨_, Tryz.func149, by kernel_rfl, by kernel_rfl⟩
theorem zek : zf Tryz.prog 181 := ⟨_, Tryz.func181, by kernel_rfl, by kernel_rfl⟩
theorem q9k : zf Tryz.prog 195 := ⟨_, Tryz.func195, by kernel_rfl, by kernel_rfl⟩
theorem q1r : zf Tryz.prog 196 := ⟨_, Tryz.func196, by kernel_rfl, by kernel_rfl⟩
theorem zbj : zf Tryz.prog 191 := ⟨_, Tryz.func191, by kernel_rfl, by kernel_rfl⟩
theorem q7s : zf Tryz.prog 192 := ⟨_, Tryz.func192, by kernel_rfl, by kernel_rfl⟩
theorem zeh : zf Tryz.prog 197 := ⟨_, Tryz.func197, by kernel_rfl, by kernel_rfl⟩
theorem q5z : zf Tryz.prog 198 := ⟨_, Tryz.func198, by kernel_rfl, by kernel_rfl⟩
theorem K133 : zf Tryz.prog 144 := ⟨_, Tryz.func144, by kernel_rfl, by kernel_rfl⟩
theorem K135 : zf Tryz.prog 174 := ⟨_, Tryz.func174, by kernel_rfl, by kernel_rfl⟩
theorem K136 : zf Tryz.prog 175 := ⟨_, Tryz.func175, by kernel_rfl, by kernel_rfl⟩
theorem K147 : zf Tryz.prog 99 := ⟨_, Tryz.func99, by kernel_rfl, by kernel_rfl⟩
theorem K148 : zf Tryz.prog 168 := ⟨_, Tryz.func168, by kernel_rfl, by kernel_rfl⟩
theorem K152 : zf Tryz.prog 103 := ⟨_, Tryz.func103, by kernel_rfl, by kernel_rfl⟩
theorem K153 : zf Tryz.prog 104 := ⟨_, Tryz.func104, by kernel_rfl, by kernel_rfl⟩
theorem K154 : zf Tryz.prog 105 := ⟨_, Tryz.func105, by kernel_rfl, by kernel_rfl⟩
theorem K155 : zf Tryz.prog 106 := ⟨_, Tryz.func106, by kernel_rfl, by kernel_rfl⟩
theorem K157 : zf Tryz.prog 36 := ⟨_, Tryz.func36, by kernel_rfl, by kernel_rfl⟩
theorem K167 : zf Tryz.prog 143 := ⟨_, Tryz.func143, by kernel_rfl, by kernel_rfl⟩
theorem K176 : zf Tryz.prog 142 := ⟨_, Tryz.func142, by kernel_rfl, by kernel_rfl⟩
theorem K180 : zf Tryz.prog 81 := ⟨_, Tryz.func81, by kernel_rfl, by kernel_rfl⟩
theorem K183 : zf Tryz.prog 180 := ⟨_, Tryz.func180, by kernel_rfl, by kernel_rfl⟩
theorem K187 : zf Tryz.prog 189 := ⟨_, Tryz.func189, by kernel_rfl, by kernel_rfl⟩
theorem K188 : zf Tryz.prog 190 := ⟨_, Tryz.func190, by kernel_rfl, by kernel_rfl⟩
theorem K192 : zf Tryz.prog 80 := ⟨_, Tryz.func80, by kernel_rfl, by kernel_rfl⟩
theorem zfu : zf Tryz.prog 93 := ⟨_, Tryz.func93, by kernel_rfl, by kernel_rfl⟩
theorem K202 : zf Tryz.prog 179 := ⟨_, Tryz.func179, by kernel_rfl, by kernel_rfl⟩
theorem q6x : zf Tryz.prog 13 := ⟨_, Tryz.func13, by kernel_rfl, by kernel_rfl⟩
theorem q4z : zf Tryz.prog 126 := ⟨_, Tryz.func126, by kernel_rfl, by kernel_rfl⟩
theorem zc7 : zf Tryz.prog 147 := ⟨_, Tryz.func147, by kernel_rfl, by kernel_rfl⟩
theorem q4x : zf Tryz.prog 41 := ⟨_, Tryz.func41, by kernel_rfl, by kernel_rfl⟩
theorem qj3 : zf Tryz.prog 40 := ⟨_, Tryz.func40, by kernel_rfl, by kernel_rfl⟩
theorem q7w : zf Tryz.prog 59 := ⟨_, Tryz.func59, by kernel_rfl, by kernel_rfl⟩
theorem q04 : zf Tryz.prog 60 := ⟨_, Tryz.func60, by kernel_rfl, by kernel_rfl⟩
theorem qi0 : zf Tryz.prog 61 := ⟨_, Tryz.func61, by kernel_rfl, by kernel_rfl⟩
theorem q8i : zf Tryz.prog 64 := ⟨_, Tryz.func64, by kernel_rfl, by kernel_rfl⟩
theorem q8g : zf Tryz.prog 63 := ⟨_, Tryz.func63, by kernel_rfl, by kernel_rfl⟩
theorem q8k : zf Tryz.prog 65 := ⟨_, Tryz.func65, by kernel_rfl, by kernel_rfl⟩
theorem q7o : zf Tryz.prog 42 := ⟨_, Tryz.func42, by kernel_rfl, by kernel_rfl⟩
theorem zc2 : zf Tryz.prog 43 := ⟨_, Tryz.func43, by kernel_rfl, by kernel_rfl⟩
theorem qj2 : zf Tryz.prog 98 := ⟨_, Tryz.func98, by kernel_rfl, by kernel_rfl⟩
theorem q7f : zf Tryz.prog 95 := ⟨_, Tryz.func95, by kernel_rfl, by kernel_rfl⟩
theorem q4s : zf Tryz.prog 96 := ⟨_, Tryz.func96, by kernel_rfl, by kernel_rfl⟩
theorem q7g : zf Tryz.prog 97 := ⟨_, Tryz.func97, by kernel_rfl, by kernel_rfl⟩
theorem qxw : zf Tryz.prog 131 := ⟨_, Tryz.func131, by kernel_rfl, by kernel_rfl⟩
theorem zbt : zf Tryz.prog 130 := ⟨_, Tryz.func130, by kernel_rfl, by kernel_rfl⟩
theorem q8r : zf Tryz.prog 50 := ⟨_, Tryz.func50, by kernel_rfl, by kernel_rfl⟩
theorem q7m : zf Tryz.prog 120 := ⟨_, Tryz.func120, by kernel_rfl, by kernel_rfl⟩
theorem q8j : zf Tryz.prog 122 := ⟨_, Tryz.func122, by kernel_rfl, by kernel_rfl⟩
theorem q8f : zf Tryz.prog 62 := ⟨_, Tryz.func62, by kernel_rfl, by kernel_rfl⟩
theorem q45 : zf Tryz.prog 102 := ⟨_, Tryz.func102, by kernel_rfl, by kernel_rfl⟩
theorem q7u : zf Tryz.prog 123 := ⟨_, Tryz.func123, by kernel_rfl, by kernel_rfl⟩
theorem zc0 : zf Tryz.prog 47 := ⟨_, Tryz.func47, by kernel_rfl, by kernel_rfl⟩
theorem zbq : zf Tryz.prog 107 := ⟨_, Tryz.func107, by kernel_rfl, by kernel_rfl⟩
theorem zbh : zf Tryz.prog 121 := ⟨_, Tryz.func121, by kernel_rfl, by kernel_rfl⟩
theorem zbk : zf Tryz.prog 173 := ⟨_, Tryz.func173, by kernel_rfl, by kernel_rfl⟩
theorem zc1 : zf Tryz.prog 101 := ⟨_, Tryz.func101, by kernel_rfl, by kernel_rfl⟩
theorem zbo : zf Tryz.prog 151 := ⟨_, Tryz.func151, by kernel_rfl, by kernel_rfl⟩
theorem zbp : zf Tryz.prog 152 := ⟨_, Tryz.func152, by kernel_rfl, by kernel_rfl⟩
theorem zbg : zf Tryz.prog 172 := ⟨_, Tryz.func172, by kernel_rfl, by kernel_rfl⟩
theorem K40 : zf Tryz.prog 128 := ⟨_, Tryz.func128, by kernel_rfl, by kernel_rfl⟩
theorem zac : zf Tryz.prog 132 := ⟨_, Tryz.func132, by kernel_rfl, by kernel_rfl⟩
theorem zcn : zf Tryz.prog 178 := ⟨_, Tryz.func178, by kernel_rfl, by kernel_rfl⟩
theorem q9s : zf Tryz.prog 90 := ⟨_, Tryz.func90, by kernel_rfl, by kernel_rfl⟩
theorem q9n : zf Tryz.prog 194 := ⟨_, Tryz.func194, by kernel_rfl, by kernel_rfl⟩
theorem zer : zf Tryz.prog 153 := ⟨_, Tryz.func153, by kernel_rfl, by kernel_rfl⟩
theorem zeq : zf Tryz.prog 182 := ⟨_, Tryz.func182, by kernel_rfl, by kernel_rfl⟩
theorem q54 : zf Tryz.prog 183 := ⟨_, Tryz.func183, by kernel_rfl, by kernel_rfl⟩
theorem q9p : zf Tryz.prog 184 := ⟨_, Tryz.func184, by kernel_rfl, by kernel_rfl⟩
theorem qzb : zf Tryz.prog 185 := ⟨_, Tryz.func185, by kernel_rfl, by kernel_rfl⟩
theorem zep : zf Tryz.prog 186 := ⟨_, Tryz.func186, by kernel_rfl, by kernel_rfl⟩
theorem q1u : zf Tryz.prog 187 := ⟨_, Tryz.func187, by kernel_rfl, by kernel_rfl⟩
theorem zd8 : zf Tryz.prog 6 := ⟨_, Tryz.func6, by kernel_rfl, by kernel_rfl⟩
theorem q9d : zf Tryz.prog 7 := ⟨_, Tryz.func7, by kernel_rfl, by kernel_rfl⟩
theorem zay : zf Tryz.prog 9 := ⟨_, Tryz.func9, by kernel_rfl, by kernel_rfl⟩
theorem q9e : zf Tryz.prog 10 := ⟨_, Tryz.func10, by kernel_rfl, by kernel_rfl⟩
theorem q38 : zf Tryz.prog 11 := ⟨_, Tryz.func11, by kernel_rfl, by kernel_rfl⟩
theorem zcl : zf Tryz.prog 12 := ⟨_, Tryz.func12, by kernel_rfl, by kernel_rfl⟩
theorem q6o : zf Tryz.prog 16 := ⟨_, Tryz.func16, by kernel_rfl, by kernel_rfl⟩
theorem zak : zf Tryz.prog 17 := ⟨_, Tryz.func17, by kernel_rfl, by kernel_rfl⟩
theorem q6v : zf Tryz.prog 18 := ⟨_, Tryz.func18, by kernel_rfl, by kernel_rfl⟩
theorem zed : zf Tryz.prog 21 := ⟨_, Tryz.func21, by kernel_rfl, by kernel_rfl⟩
theorem zd9 : zf Tryz.prog 23 := ⟨_, Tryz.func23, by kernel_rfl, by kernel_rfl⟩
theorem zea : zf Tryz.prog 24 := ⟨_, Tryz.func24, by kernel_rfl, by kernel_rfl⟩
theorem zeb : zf Tryz.prog 25 := ⟨_, Tryz.func25, by kernel_rfl, by kernel_rfl⟩
theorem zec : zf Tryz.prog 26 := ⟨_, Tryz.func26, by kernel_rfl, by kernel_rfl⟩
theorem q9f : zf Tryz.prog 27 := ⟨_, Tryz.func27, by kernel_rfl, by kernel_rfl⟩
theorem zee : zf Tryz.prog 29 := ⟨_, Tryz.func29, by kernel_rfl, by kernel_rfl⟩
theorem q9g : zf Tryz.prog 30 := ⟨_, Tryz.func30, by kernel_rfl, by kernel_rfl⟩
theorem zan : zf Tryz.prog 31 := ⟨_, Tryz.func31, by kernel_rfl, by kernel_rfl⟩
theorem q6t : zf Tryz.prog 32 := ⟨_, Tryz.func32, by kernel_rfl, by kernel_rfl⟩
theorem zap : zf Tryz.prog 33 := ⟨_, Tryz.func33, by kernel_rfl, by kernel_rfl⟩
theorem zar : zf Tryz.prog 34 := ⟨_, Tryz.func34, by kernel_rfl, by kernel_rfl⟩
theorem zas : zf Tryz.prog 35 := ⟨_, Tryz.func35, by kernel_rfl, by kernel_rfl⟩
theorem qq8 : zf Tryz.prog 37 := ⟨_, Tryz.func37, by kernel_rfl, by kernel_rfl⟩
theorem zau : zf Tryz.prog 38 := ⟨_, Tryz.func38, by kernel_rfl, by kernel_rfl⟩
theorem q8z : zf Tryz.prog 39 := ⟨_, Tryz.func39, by kernel_rfl, by kernel_rfl⟩
theorem qe5 : zf Tryz.prog 49 := ⟨_, Tryz.func49, by kernel_rfl, by kernel_rfl⟩
theorem zdp : zf Tryz.prog 51 := ⟨_, Tryz.func51, by kernel_rfl, by kernel_rfl⟩
theorem zb5 : zf Tryz.prog 54 := ⟨_, Tryz.func54, by kernel_rfl, by kernel_rfl⟩
theorem zb7 : zf Tryz.prog 55 := ⟨_, Tryz.func55, by kernel_rfl, by kernel_rfl⟩
theorem qx0 : zf Tryz.prog 56 := ⟨_, Tryz.func56, by kernel_rfl, by kernel_rfl⟩
theorem qry : zf Tryz.prog 57 := ⟨_, Tryz.func57, by kernel_rfl, by kernel_rfl⟩
theorem zb9 : zf Tryz.prog 58 := ⟨_, Tryz.func58, by kernel_rfl, by kernel_rfl⟩
theorem zck : zf Tryz.prog 66 := ⟨_, Tryz.func66, by kernel_rfl, by kernel_rfl⟩
theorem zcm : zf Tryz.prog 67 := ⟨_, Tryz.func67, by kernel_rfl, by kernel_rfl⟩
theorem zcd : zf Tryz.prog 68 := ⟨_, Tryz.func68, by kernel_rfl, by kernel_rfl⟩
theorem q78 : zf Tryz.prog 69 := ⟨_, Tryz.func69, by kernel_rfl, by kernel_rfl⟩
theorem q8a : zf Tryz.prog 70 := ⟨_, Tryz.func70, by kernel_rfl, by kernel_rfl⟩
theorem zcf : zf Tryz.prog 71 := ⟨_, Tryz.func71, by kernel_rfl, by kernel_rfl⟩
theorem q72 : zf Tryz.prog 72 := ⟨_, Tryz.func72, by kernel_rfl, by kernel_rfl⟩
theorem zcg : zf Tryz.prog 73 := ⟨_, Tryz.func73, by kernel_rfl, by kernel_rfl⟩
theorem zbv : zf Tryz.prog 74 := ⟨_, Tryz.func74, by kernel_rfl, by kernel_rfl⟩
theorem zag : zf Tryz.prog 75 := ⟨_, Tryz.func75, by kernel_rfl, by kernel_rfl⟩
theorem q6n : zf Tryz.prog 76 := ⟨_, Tryz.func76, by kernel_rfl, by kernel_rfl⟩
theorem zai : zf Tryz.prog 77 := ⟨_, Tryz.func77, by kernel_rfl, by kernel_rfl⟩
theorem zaj : zf Tryz.prog 78 := ⟨_, Tryz.func78, by kernel_rfl, by kernel_rfl⟩
theorem zal : zf Tryz.prog 79 := ⟨_, Tryz.func79, by kernel_rfl, by kernel_rfl⟩
theorem zey : zf Tryz.prog 82 := ⟨_, Tryz.func82, by kernel_rfl, by kernel_rfl⟩
theorem qdc : zf Tryz.prog 83 := ⟨_, Tryz.func83, by kernel_rfl, by kernel_rfl⟩
theorem zez : zf Tryz.prog 84 := ⟨_, Tryz.func84, by kernel_rfl, by kernel_rfl⟩
theorem ze0 : zf Tryz.prog 85 := ⟨_, Tryz.func85, by kernel_rfl, by kernel_rfl⟩
theorem q9x : zf Tryz.prog 86 := ⟨_, Tryz.func86, by kernel_rfl, by kernel_rfl⟩
theorem q56 : zf Tryz.prog 87 := ⟨_, Tryz.func87, by kernel_rfl, by kernel_rfl⟩
theorem zff : zf Tryz.prog 88 := ⟨_, Tryz.func88, by kernel_rfl, by kernel_rfl⟩
theorem zfe : zf Tryz.prog 89 := ⟨_, Tryz.func89, by kernel_rfl, by kernel_rfl⟩
theorem zfg : zf Tryz.prog 91 := ⟨_, Tryz.func91, by kernel_rfl, by kernel_rfl⟩
theorem zfs : zf Tryz.prog 92 := ⟨_, Tryz.func92, by kernel_rfl, by kernel_rfl⟩
theorem zfv : zf Tryz.prog 94 := ⟨_, Tryz.func94, by kernel_rfl, by kernel_rfl⟩
theorem q5f : zf Tryz.prog 108 := ⟨_, Tryz.func108, by kernel_rfl, by kernel_rfl⟩
theorem zdn : zf Tryz.prog 109 := ⟨_, Tryz.func109, by kernel_rfl, by kernel_rfl⟩
theorem zdo : zf Tryz.prog 110 := ⟨_, Tryz.func110, by kernel_rfl, by kernel_rfl⟩
theorem q5h : zf Tryz.prog 111 := ⟨_, Tryz.func111, by kernel_rfl, by kernel_rfl⟩
theorem q74 : zf Tryz.prog 114 := ⟨_, Tryz.func114, by kernel_rfl, by kernel_rfl⟩
theorem q8y : zf Tryz.prog 116 := ⟨_, Tryz.func116, by kernel_rfl, by kernel_rfl⟩
theorem zc9 : zf Tryz.prog 117 := ⟨_, Tryz.func117, by kernel_rfl, by kernel_rfl⟩
theorem qze : zf Tryz.prog 118 := ⟨_, Tryz.func118, by kernel_rfl, by kernel_rfl⟩
theorem zfi : zf Tryz.prog 119 := ⟨_, Tryz.func119, by kernel_rfl, by kernel_rfl⟩
theorem zbz : zf Tryz.prog 124 := ⟨_, Tryz.func124, by kernel_rfl, by kernel_rfl⟩
theorem zb0 : zf Tryz.prog 125 := ⟨_, Tryz.func125, by kernel_rfl, by kernel_rfl⟩
theorem q6j : zf Tryz.prog 134 := ⟨_, Tryz.func134, by kernel_rfl, by kernel_rfl⟩
theorem q32 : zf Tryz.prog 135 := ⟨_, Tryz.func135, by kernel_rfl, by kernel_rfl⟩
theorem q97 : zf Tryz.prog 136 := ⟨_, Tryz.func136, by kernel_rfl, by kernel_rfl⟩
theorem q98 : zf Tryz.prog 137 := ⟨_, Tryz.func137, by kernel_rfl, by kernel_rfl⟩
theorem zew : zf Tryz.prog 140 := ⟨_, Tryz.func140, by kernel_rfl, by kernel_rfl⟩
theorem zex : zf Tryz.prog 141 := ⟨_, Tryz.func141, by kernel_rfl, by kernel_rfl⟩
theorem q8w : zf Tryz.prog 145 := ⟨_, Tryz.func145, by kernel_rfl, by kernel_rfl⟩
theorem zft : zf Tryz.prog 146 := ⟨_, Tryz.func146, by kernel_rfl, by kernel_rfl⟩
theorem zfq : zf Tryz.prog 150 := ⟨_, Tryz.func150, by kernel_rfl, by kernel_rfl⟩
theorem zdf : zf Tryz.prog 154 := ⟨_, Tryz.func154, by kernel_rfl, by kernel_rfl⟩
theorem zdg : zf Tryz.prog 155 := ⟨_, Tryz.func155, by kernel_rfl, by kernel_rfl⟩
theorem zdl : zf Tryz.prog 156 := ⟨_, Tryz.func156, by kernel_rfl, by kernel_rfl⟩
theorem ze9 : zf Tryz.prog 157 := ⟨_, Tryz.func157, by kernel_rfl, by kernel_rfl⟩
theorem zfa : zf Tryz.prog 158 := ⟨_, Tryz.func158, by kernel_rfl, by kernel_rfl⟩
theorem ze6 : zf Tryz.prog 159 := ⟨_, Tryz.func159, by kernel_rfl, by kernel_rfl⟩
theorem ze7 : zf Tryz.prog 160 := ⟨_, Tryz.func160, by kernel_rfl, by kernel_rfl⟩
theorem zdq : zf Tryz.prog 162 := ⟨_, Tryz.func162, by kernel_rfl, by kernel_rfl⟩
theorem zds : zf Tryz.prog 163 := ⟨_, Tryz.func163, by kernel_rfl, by kernel_rfl⟩
theorem zdu : zf Tryz.prog 164 := ⟨_, Tryz.func164, by kernel_rfl, by kernel_rfl⟩
theorem zdw : zf Tryz.prog 165 := ⟨_, Tryz.func165, by kernel_rfl, by kernel_rfl⟩
theorem zdy : zf Tryz.prog 166 := ⟨_, Tryz.func166, by kernel_rfl, by kernel_rfl⟩
theorem zd0 : zf Tryz.prog 167 := ⟨_, Tryz.func167, by kernel_rfl, by kernel_rfl⟩
theorem zdd : zf Tryz.prog 188 := ⟨_, Tryz.func188, by kernel_rfl, by kernel_rfl⟩
theorem K69 : zf Tryz.prog 127 := ⟨_, Tryz.func127, by kernel_rfl, by kernel_rfl⟩
theorem K83 : zf Tryz.prog 28 := ⟨_, Tryz.func28, by kernel_rfl, by kernel_rfl⟩
theorem K88 : zf Tryz.prog 115 := ⟨_, Tryz.func115, by kernel_rfl, by kernel_rfl⟩
theorem K89 : zf Tryz.prog 133 := ⟨_, Tryz.func133, by kernel_rfl, by kernel_rfl⟩
theorem K90 : zf Tryz.prog 139 := ⟨_, Tryz.func139, by kernel_rfl, by kernel_rfl⟩
theorem K91 : zf Tryz.prog 129 := ⟨_, Tryz.func129, by kernel_rfl, by kernel_rfl⟩
theorem K92 : zf Tryz.prog 138 := ⟨_, Tryz.func138, by kernel_rfl, by kernel_rfl⟩
theorem q4c : appK Tryz.prog 35 = some (9, 1, 16) := by kernel_rfl
theorem qx4 : appK Tryz.prog 38 = some (3, 1, 8) := by kernel_rfl
theorem qk4 : appK Tryz.prog 40 = some (101, 16, 216) := by kernel_rfl
theorem qv4 : appK Tryz.prog 41 = some (105, 14, 160) := by kernel_rfl
theorem qoq : appK Tryz.prog 48 = some (53, 7, 80) := by kernel_rfl
theorem q33 : appK Tryz.prog 91 = some (138, 11, 112) := by kernel_rfl
theorem qre : appK Tryz.prog 99 = some (104, 3, 32) := by kernel_rfl
theorem qcw : jb Tryz.prog 101 0 = some (0, 13, true) := by kernel_rfl
theorem qcr : jb Tryz.prog 101 1 = some (13, 1, false) := by kernel_rfl
theorem qav : jb Tryz.prog 101 2 = some (14, 1, false) := by kernel_rfl
theorem qef : jb Tryz.prog 101 3 = some (15, 1, false) := by kernel_rfl
theorem qnu : jb Tryz.prog 103 0 = some (0, 1, false) := by kernel_rfl
theorem qka : jb Tryz.prog 103 1 = some (1, 1, false) := by kernel_rfl
theorem qkb : jb Tryz.prog 103 2 = some (2, 1, false) := by kernel_rfl
theorem qo5 : jb Tryz.prog 104 0 = some (0, 1, false) := by kernel_rfl
theorem qfy : jb Tryz.prog 104 1 = some (1, 1, false) := by kernel_rfl
theorem qfz : jb Tryz.prog 104 2 = some (2, 1, false) := by kernel_rfl
theorem qft : jb Tryz.prog 105 0 = some (0, 13, true) := by kernel_rfl
theorem qoy : jb Tryz.prog 105 1 = some (13, 1, false) := by kernel_rfl
theorem qkg : jb Tryz.prog 138 0 = some (0, 1, false) := by kernel_rfl
theorem qfo : jb Tryz.prog 138 1 = some (1, 1, false) := by kernel_rfl
theorem qkh : jb Tryz.prog 138 2 = some (2, 1, false) := by kernel_rfl
theorem qtd : jb Tryz.prog 138 3 = some (3, 1, false) := by kernel_rfl
theorem qh8 : jb Tryz.prog 138 4 = some (4, 1, false) := by kernel_rfl
theorem qki : jb Tryz.prog 138 5 = some (5, 1, false) := by kernel_rfl
theorem qkj : jb Tryz.prog 138 6 = some (6, 1, false) := by kernel_rfl
theorem qoo : jb Tryz.prog 138 7 = some (7, 3, true) := by kernel_rfl
theorem q0y : jb Tryz.prog 138 8 = some (10, 1, false) := by kernel_rfl
theorem wj : jb Tryz.prog 26 0 = some (0, 1, false) := by kernel_rfl
theorem qbl : jb Tryz.prog 26 1 = some (1, 1, false) := by kernel_rfl
theorem qdg : jb Tryz.prog 31 0 = some (0, 1, false) := by kernel_rfl
theorem qb1 : jb Tryz.prog 31 1 = some (1, 1, false) := by kernel_rfl
theorem qtb : jb Tryz.prog 31 2 = some (2, 1, false) := by kernel_rfl
theorem vh : jb Tryz.prog 33 0 = some (0, 1, false) := by kernel_rfl
theorem qk2 : jb Tryz.prog 33 1 = some (1, 1, false) := by kernel_rfl
theorem qh0 : jb Tryz.prog 33 10 = some (12, 1, false) := by kernel_rfl
theorem qe2 : jb Tryz.prog 33 2 = some (2, 1, false) := by kernel_rfl
theorem qgn : jb Tryz.prog 33 3 = some (3, 1, false) := by kernel_rfl
theorem qse : jb Tryz.prog 33 4 = some (4, 1, false) := by kernel_rfl
theorem ql4 : jb Tryz.prog 33 5 = some (5, 1, false) := by kernel_rfl
theorem wd : jb Tryz.prog 33 6 = some (6, 3, true) := by kernel_rfl
theorem qi1 : jb Tryz.prog 33 7 = some (9, 1, false) := by kernel_rfl
theorem qlk : jb Tryz.prog 33 8 = some (10, 1, false) := by kernel_rfl
theorem qll : jb Tryz.prog 33 9 = some (11, 1, false) := by kernel_rfl
theorem qbf : jb Tryz.prog 37 0 = some (0, 13, true) := by kernel_rfl
theorem qhi : jb Tryz.prog 37 1 = some (13, 1, false) := by kernel_rfl
theorem qas : jb Tryz.prog 37 2 = some (14, 1, false) := by kernel_rfl
theorem qbh : jb Tryz.prog 37 3 = some (15, 1, false) := by kernel_rfl
theorem xe : jb Tryz.prog 43 0 = some (0, 1, false) := by kernel_rfl
theorem qdk : jb Tryz.prog 43 1 = some (1, 1, false) := by kernel_rfl
theorem qaz : jb Tryz.prog 53 0 = some (0, 1, false) := by kernel_rfl
theorem qea : jb Tryz.prog 53 1 = some (1, 1, false) := by kernel_rfl
theorem qh2 : jb Tryz.prog 53 2 = some (2, 1, false) := by kernel_rfl
theorem q0s : jb Tryz.prog 53 3 = some (3, 1, false) := by kernel_rfl
theorem q0t : jb Tryz.prog 53 4 = some (4, 1, false) := by kernel_rfl
theorem q0u : jb Tryz.prog 53 5 = some (5, 1, false) := by kernel_rfl
theorem qoi : jb Tryz.prog 53 6 = some (6, 1, false) := by kernel_rfl
theorem q09 : jb Tryz.prog 60 0 = some (0, 1, false) := by kernel_rfl
theorem qkl : jb Tryz.prog 60 2 = some (2, 1, false) := by kernel_rfl
theorem qoj : jb Tryz.prog 62 0 = some (0, 1, false) := by kernel_rfl
theorem qta : jb Tryz.prog 62 1 = some (1, 1, false) := by kernel_rfl
theorem qoh : jb Tryz.prog 62 2 = some (2, 1, false) := by kernel_rfl
theorem qfn : jb Tryz.prog 62 3 = some (3, 1, false) := by kernel_rfl
theorem qh3 : jb Tryz.prog 62 4 = some (4, 1, false) := by kernel_rfl
theorem qok : jb Tryz.prog 62 5 = some (5, 1, false) := by kernel_rfl
theorem qol : jb Tryz.prog 62 6 = some (6, 1, false) := by kernel_rfl
theorem qh4 : jb Tryz.prog 62 7 = some (7, 3, true) := by kernel_rfl
theorem qom : jb Tryz.prog 62 8 = some (10, 1, false) := by kernel_rfl
theorem qd7 : jb Tryz.prog 73 0 = some (0, 13, true) := by kernel_rfl
theorem qhj : jb Tryz.prog 73 1 = some (13, 1, false) := by kernel_rfl
theorem q2e : qap Tryz.prog 101 = some [(0, 13), (13, 1), (14, 1), (15, 1)] := by kernel_rfl
theorem q9w : qap Tryz.prog 104 = some [(0, 1), (1, 1), (2, 1)] := by kernel_rfl
theorem pl46 : qap Tryz.prog 31 = some [(0, 1), (1, 1), (2, 1)] := by kernel_rfl
theorem zax : qap Tryz.prog 33 = some [(0, 1), (1, 1), (2, 1), (3, 1), (4, 1), (5, 1), (6, 3), (9, 1), (10, 1), (11, 1), (12, 1)] := by kernel_rfl
theorem qa8 : qap Tryz.prog 43 = some [(0, 1), (1, 1)] := by kernel_rfl
theorem qsq : qap Tryz.prog 53 = some [(0, 1), (1, 1), (2, 1), (3, 1), (4, 1), (5, 1), (6, 1)] := by kernel_rfl
theorem q20 : qap Tryz.prog 60 = some [(0, 1), (1, 1), (2, 1)] := by kernel_rfl
theorem q6u : qap Tryz.prog 62 = some [(0, 1), (1, 1), (2, 1), (3, 1), (4, 1), (5, 1), (6, 1), (7, 3), (10, 1)] := by kernel_rfl
theorem ko : tyK Tryz.prog 101 = some (16, true) := by kernel_rfl
theorem qep : tyK Tryz.prog 103 = some (3, true) := by kernel_rfl
theorem qb2 : tyK Tryz.prog 104 = some (3, true) := by kernel_rfl
theorem qf5 : tyK Tryz.prog 105 = some (14, true) := by kernel_rfl
theorem qtf : tyK Tryz.prog 132 = some (1, false) := by kernel_rfl
theorem qam : tyK Tryz.prog 138 = some (11, true) := by kernel_rfl
theorem q2z : tyK Tryz.prog 22 = some (1, false) := by kernel_rfl
theorem qdz : tyK Tryz.prog 23 = some (1, false) := by kernel_rfl
theorem qf3 : tyK Tryz.prog 24 = some (1, false) := by kernel_rfl
theorem qmj : tyK Tryz.prog 26 = some (2, true) := by kernel_rfl
theorem ty3 : tyK Tryz.prog 3 = some (1, false) := by kernel_rfl
theorem ty46 : tyK Tryz.prog 31 = some (3, true) := by kernel_rfl
theorem w5 : tyK Tryz.prog 33 = some (13, true) := by kernel_rfl
theorem qeo : tyK Tryz.prog 34 = some (1, false) := by kernel_rfl
theorem ty22 : tyK Tryz.prog 35 = some (1, false) := by kernel_rfl
theorem qbs : tyK Tryz.prog 37 = some (16, true) := by kernel_rfl
theorem ty82 : tyK Tryz.prog 38 = some (1, false) := by kernel_rfl
theorem ty4 : tyK Tryz.prog 4 = some (1, false) := by kernel_rfl
theorem qbt : tyK Tryz.prog 40 = some (1, false) := by kernel_rfl
theorem qjn : tyK Tryz.prog 41 = some (1, false) := by kernel_rfl
theorem zi : tyK Tryz.prog 43 = some (2, true) := by kernel_rfl
theorem ty37 : tyK Tryz.prog 44 = some (1, false) := by kernel_rfl
theorem qzj : tyK Tryz.prog 48 = some (1, false) := by kernel_rfl
theorem jd : tyK Tryz.prog 53 = some (7, true) := by kernel_rfl
theorem qlv : tyK Tryz.prog 60 = some (3, true) := by kernel_rfl
theorem kq : tyK Tryz.prog 62 = some (11, true) := by kernel_rfl
theorem qdi : tyK Tryz.prog 73 = some (14, true) := by kernel_rfl
theorem ty9 : tyK Tryz.prog 9 = some (1, false) := by kernel_rfl
theorem qeu : tyK Tryz.prog 99 = some (1, false) := by kernel_rfl
theorem qhl : vz Tryz.prog 101 = some [.string ByteArray.empty, .string ByteArray.empty, .string ByteArray.empty, .string ByteArray.empty, .string ByteArray.empty, .string ByteArray.empty, .int .i64 0, .int .i64 0, .int .i64 0, .int .i64 0, .int .i64 0, .int .i64 0, .int .i64 0, .string ByteArray.empty, .slice none 0 0, .slice none 0 0] := by kernel_rfl
theorem za0 : vz Tryz.prog 103 = some [.string ByteArray.empty, .int .i64 0, .int .i64 0] := by kernel_rfl
theorem qrd : vz Tryz.prog 104 = some [.string ByteArray.empty, .int .i64 0, .int .i64 0] := by kernel_rfl
theorem q60 : vz Tryz.prog 105 = some [.string ByteArray.empty, .string ByteArray.empty, .string ByteArray.empty, .string ByteArray.empty, .string ByteArray.empty, .string ByteArray.empty, .int .i64 0, .int .i64 0, .int .i64 0, .int .i64 0, .int .i64 0, .int .i64 0, .int .i64 0, .int .i64 0] := by kernel_rfl
theorem q8h : vz Tryz.prog 132 = some [.slice none 0 0] := by kernel_rfl
theorem q6r : vz Tryz.prog 138 = some [.string ByteArray.empty, .string ByteArray.empty, .string ByteArray.empty, .int .i64 0, .int .i64 0, .int .i64 0, .int .i64 0, .int .i64 0, .int .i64 0, .int .i64 0, .int .i64 0] := by kernel_rfl
theorem zdi : vz Tryz.prog 174 = some [.int .i64 0, .int .i64 0] := by kernel_rfl
theorem z3 : vz Tryz.prog 3 = some [.int .i64 0] := by kernel_rfl
theorem z46 : vz Tryz.prog 31 = some [.int .i64 0, .int .i64 0, .int .i64 0] := by kernel_rfl
theorem z116 : vz Tryz.prog 33 = some [.string ByteArray.empty, .string ByteArray.empty, .string ByteArray.empty, .string ByteArray.empty, .string ByteArray.empty, .string ByteArray.empty, .int .i64 0, .int .i64 0, .int .i64 0, .int .i64 0, .int .i64 0, .int .i64 0, .int .i64 0] := by kernel_rfl
theorem q4b : vz Tryz.prog 37 = some [.string ByteArray.empty, .string ByteArray.empty, .string ByteArray.empty, .string ByteArray.empty, .string ByteArray.empty, .string ByteArray.empty, .int .i64 0, .int .i64 0, .int .i64 0, .int .i64 0, .int .i64 0, .int .i64 0, .int .i64 0, .string ByteArray.empty, .slice none 0 0, .slice none 0 0] := by kernel_rfl
theorem z82 : vz Tryz.prog 38 = some [.slice none 0 0] := by kernel_rfl
theorem xg : vz Tryz.prog 43 = some [.slice none 0 0, .slice none 0 0] := by kernel_rfl
theorem z37 : vz Tryz.prog 44 = some [.int .i64 0] := by kernel_rfl
theorem zfr : vz Tryz.prog 48 = some [.slice none 0 0] := by kernel_rfl
theorem qny : vz Tryz.prog 53 = some [.int .i64 0, .string ByteArray.empty, .string ByteArray.empty, .int .i64 0, .int .i64 0, .int .i64 0, .string ByteArray.empty] := by kernel_rfl
theorem qvh : vz Tryz.prog 60 = some [.int .i64 0, .int .i64 0, .int .i64 0] := by kernel_rfl
theorem qub : vz Tryz.prog 62 = some [.string ByteArray.empty, .string ByteArray.empty, .string ByteArray.empty, .int .i64 0, .int .i64 0, .int .i64 0, .int .i64 0, .int .i64 0, .int .i64 0, .int .i64 0, .int .i64 0] := by kernel_rfl
theorem q6p : vz Tryz.prog 73 = some [.string ByteArray.empty, .string ByteArray.empty, .string ByteArray.empty, .string ByteArray.empty, .string ByteArray.empty, .string ByteArray.empty, .int .i64 0, .int .i64 0, .int .i64 0, .int .i64 0, .int .i64 0, .int .i64 0, .int .i64 0, .int .i64 0] := by kernel_rfl
theorem z9 : vz Tryz.prog 9 = some [.string ByteArray.empty] := by kernel_rfl
theorem q1z : qez Tryz.prog 60 104 = some [.str, .int .i64, .int .i64] ∧ qe0 Tryz.prog 104 = true ∧ Tryz.prog.eqGuardType Tryz.prog.depth 104 = false := ⟨by kernel_rfl, by kernel_rfl, by kernel_rfl⟩
theorem q0z : qez Tryz.prog 60 53 = some [.int .i64, .str, .str, .int .i64, .int .i64, .int .i64, .str] ∧ qe0 Tryz.prog 53 = true ∧ Tryz.prog.eqGuardType Tryz.prog.depth 53 = false := ⟨by kernel_rfl, by kernel_rfl, by kernel_rfl⟩
theorem q1e : qez Tryz.prog 60 60 = some [.int .i64, .int .i64, .int .i64] ∧ qe0 Tryz.prog 60 = true ∧ Tryz.prog.eqGuardType Tryz.prog.depth 60 = false := ⟨by kernel_rfl, by kernel_rfl, by kernel_rfl⟩
theorem q9u : mkK Tryz.prog 41 = some (105, 14, 160, [.string ByteArray.empty, .string ByteArray.empty, .string ByteArray.empty, .string ByteArray.empty, .string ByteArray.empty, .string ByteArray.empty, .int .i64 0, .int .i64 0, .int .i64 0, .int .i64 0, .int .i64 0, .int .i64 0, .int .i64 0, .int .i64 0]) := by kernel_rfl
theorem zr4 : (Tryz.prog.info? 4).bind (·.zero) = some (.bool false) := by kernel_rfl
end Go.Sim
