/-
  What is proved: facts of the types and the functions, and the structures of the program.
-/
import Derived.Test.YtfmnmoiaemejjaaGreatVrA3
set_option linter.unusedSectionVars false
set_option linter.unusedSimpArgs false
set_option linter.unusedVariables false
set_option linter.unnecessarySimpa false
set_option linter.deprecated false
set_option maxRecDepth 10000
namespace Go.Sim
open Go.Proofs
structure S7 where
 x : Int
 y : Int
 signed : Bool
 code : Int
 deriving DecidableEq, Inhabited
abbrev S7.c (x : S7) : List G := [G.int x.x, G.int x.y, G.bool x.signed, G.lit (.int .u8 x.code)]
structure S13 where
 msg : ByteArray
 addr : Int
 deriving DecidableEq, Inhabited
abbrev S13.c (x : S13) : List G := [G.str x.msg, G.lit (.int .u64 x.addr)]
structure S45 where
 fFrom : Int
 fTo : Int
 Days : Int
 deriving DecidableEq, Inhabited
abbrev S45.c (x : S45) : List G := [G.int x.fFrom, G.int x.fTo, G.int x.Days]
structure S115 where
 Name : ByteArray
 Carrier : ByteArray
 Kind : ByteArray
 Terminal : ByteArray
 Partner : ByteArray
 Link : ByteArray
 Period : S45
 Minute : Int
 Seats : Int
 Size : Int
 Noise : Int
 deriving DecidableEq, Inhabited
abbrev S115.c (x : S115) : List G := [G.str x.Name, G.str x.Carrier, G.str x.Kind, G.str x.Terminal, G.str x.Partner, G.str x.Link, G.int x.Period.fFrom, G.int x.Period.fTo, G.int x.Period.Days, G.int x.Minute, G.int x.Seats, G.int x.Size, G.int x.Noise]
structure S5102 where
 Carrier : ByteArray
 fFrom : Int
 fTo : Int
 deriving DecidableEq, Inhabited
abbrev S5102.c (x : S5102) : List G := [G.str x.Carrier, G.int x.fFrom, G.int x.fTo]
structure S5036 where
 Request : S115
 Holder : ByteArray
 Leases : List S5102
 Shares : List ByteArray
 deriving DecidableEq, Inhabited
abbrev S5036.c (x : S5036) : List G := [G.str x.Request.Name, G.str x.Request.Carrier, G.str x.Request.Kind, G.str x.Request.Terminal, G.str x.Request.Partner, G.str x.Request.Link, G.int x.Request.Period.fFrom, G.int x.Request.Period.fTo, G.int x.Request.Period.Days, G.int x.Request.Minute, G.int x.Request.Seats, G.int x.Request.Size, G.int x.Request.Noise, G.str x.Holder, G.sl 3 (List.map S5102.c x.Leases), G.sl 1 (List.map cStr x.Shares)]
structure S5072 where
 Request : S115
 Rank : Int
 deriving DecidableEq, Inhabited
abbrev S5072.c (x : S5072) : List G := [G.str x.Request.Name, G.str x.Request.Carrier, G.str x.Request.Kind, G.str x.Request.Terminal, G.str x.Request.Partner, G.str x.Request.Link, G.int x.Request.Period.fFrom, G.int x.Request.Period.fTo, G.int x.Request.Period.Days, G.int x.Request.Minute, G.int x.Request.Seats, G.int x.Request.Size, G.int x.Request.Noise, G.int x.Rank]
structure S5025 where
 Slots : List S5036
 Waiting : List S5072
 deriving DecidableEq, Inhabited
abbrev S5025.c (x : S5025) : List G := [G.sl 16 (List.map S5036.c x.Slots), G.sl 14 (List.map S5072.c x.Waiting)]
structure S5100 where
 Request : S115
 Holder : ByteArray
 Leases : List S5102
 Shares : List ByteArray
 deriving DecidableEq, Inhabited
abbrev S5100.c (x : S5100) : List G := [G.str x.Request.Name, G.str x.Request.Carrier, G.str x.Request.Kind, G.str x.Request.Terminal, G.str x.Request.Partner, G.str x.Request.Link, G.int x.Request.Period.fFrom, G.int x.Request.Period.fTo, G.int x.Request.Period.Days, G.int x.Request.Minute, G.int x.Request.Seats, G.int x.Request.Size, G.int x.Request.Noise, G.str x.Holder, G.sl 3 (List.map S5102.c x.Leases), G.sl 1 (List.map cStr x.Shares)]
structure S5042 where
 Slots : List S5100
 Waiting : List S5072
 deriving DecidableEq, Inhabited
abbrev S5042.c (x : S5042) : List G := [G.sl 16 (List.map S5100.c x.Slots), G.sl 14 (List.map S5072.c x.Waiting)]
structure S1079 where
 Moment : Int
 Kind : ByteArray
 Terminal : ByteArray
 Seats : Int
 Size : Int
 Noise : Int
 Name : ByteArray
 deriving DecidableEq, Inhabited
abbrev S1079.c (x : S1079) : List G := [G.int x.Moment, G.str x.Kind, G.str x.Terminal, G.int x.Seats, G.int x.Size, G.int x.Noise, G.str x.Name]
structure S2068 where
 Limit : Int
 Begin : Int
 Count : Int
 deriving DecidableEq, Inhabited
abbrev S2068.c (x : S2068) : List G := [G.int x.Limit, G.int x.Begin, G.int x.Count]
structure S2062 where
 Name : ByteArray
 Kind : ByteArray
 Terminal : ByteArray
 Length : Int
 Step : Int
 fFrom : Int
 fTo : Int
 Period : S45
 Most : Int
 deriving DecidableEq, Inhabited
abbrev S2062.c (x : S2062) : List G := [G.str x.Name, G.str x.Kind, G.str x.Terminal, G.int x.Length, G.int x.Step, G.int x.fFrom, G.int x.fTo, G.int x.Period.fFrom, G.int x.Period.fTo, G.int x.Period.Days, G.int x.Most]
theorem K102 : ze Tryz.prog 48 := ⟨_, Tryz.func48, by kernel_rfl, by kernel_rfl⟩
theorem K104 : ze Tryz.prog 8 := ⟨_, Tryz.func8, by kernel_rfl, by kernel_rfl⟩
theorem K109 : ze Tryz.prog 177 := ⟨_, Tryz.func177, by kernel_rfl, by kernel_rfl⟩
theorem q8x : ze Tryz.prog 148 := ⟨_, Tryz.func148, by kernel_rfl, by kernel_rfl⟩
theorem q8y : ze Tryz.prog 149 := ⟨_, Tryz.func149, by kernel_rfl, by kernel_rfl⟩
theorem q8z : ze Tryz.prog 181 := ⟨_, Tryz.func181, by kernel_rfl, by kernel_rfl⟩
theorem q5n : ze Tryz.prog 195 := ⟨_, Tryz.func195, by kernel_rfl, by kernel_rfl⟩
theorem qyj : ze Tryz.prog 196 := ⟨_, Tryz.func196, by kernel_rfl, by kernel_rfl⟩
theorem q80 : ze Tryz.prog 191 := ⟨_, Tryz.func191, by kernel_rfl, by kernel_rfl⟩
theorem q5o : ze Tryz.prog 192 := ⟨_, Tryz.func192, by kernel_rfl, by kernel_rfl⟩
theorem q81 : ze Tryz.prog 197 := ⟨_, Tryz.func197, by kernel_rfl, by kernel_rfl⟩
theorem q2t : ze Tryz.prog 198 := ⟨_, Tryz.func198, by kernel_rfl, by kernel_rfl⟩
theorem K133 : ze Tryz.prog 144 := ⟨_, Tryz.func144, by kernel_rfl, by kernel_rfl⟩
theorem K135 : ze Tryz.prog 174 := ⟨_, Tryz.func174, by kernel_rfl, by kernel_rfl⟩
theorem K136 : ze Tryz.prog 175 := ⟨_, Tryz.func175, by kernel_rfl, by kernel_rfl⟩
theorem K147 : ze Tryz.prog 99 := ⟨_, Tryz.func99, by kernel_rfl, by kernel_rfl⟩
theorem K148 : ze Tryz.prog 168 := ⟨_, Tryz.func168, by kernel_rfl, by kernel_rfl⟩
theorem K152 : ze Tryz.prog 103 := ⟨_, Tryz.func103, by kernel_rfl, by kernel_rfl⟩
theorem K153 : ze Tryz.prog 104 := ⟨_, Tryz.func104, by kernel_rfl, by kernel_rfl⟩
theorem K154 : ze Tryz.prog 105 := ⟨_, Tryz.func105, by kernel_rfl, by kernel_rfl⟩
theorem K155 : ze Tryz.prog 106 := ⟨_, Tryz.func106, by kernel_rfl, by kernel_rfl⟩
theorem K157 : ze Tryz.prog 36 := ⟨_, Tryz.func36, by kernel_rfl, by kernel_rfl⟩
theorem K167 : ze Tryz.prog 143 := ⟨_, Tryz.func143, by kernel_rfl, by kernel_rfl⟩
theorem K176 : ze Tryz.prog 142 := ⟨_, Tryz.func142, by kernel_rfl, by kernel_rfl⟩
theorem K180 : ze Tryz.prog 81 := ⟨_, Tryz.func81, by kernel_rfl, by kernel_rfl⟩
theorem K183 : ze Tryz.prog 180 := ⟨_, Tryz.func180, by kernel_rfl, by kernel_rfl⟩
theorem K187 : ze Tryz.prog 189 := ⟨_, Tryz.func189, by kernel_rfl, by kernel_rfl⟩
theorem K188 : ze Tryz.prog 190 := ⟨_, Tryz.func190, by kernel_rfl, by kernel_rfl⟩
theorem K192 : ze Tryz.prog 80 := ⟨_, Tryz.func80, by kernel_rfl, by kernel_rfl⟩
theorem q82 : ze Tryz.prog 93 := ⟨_, Tryz.func93, by kernel_rfl, by kernel_rfl⟩
theorem K202 : ze Tryz.prog 179 := ⟨_, Tryz.func179, by kernel_rfl, by kernel_rfl⟩
theorem qyk : ze Tryz.prog 13 := ⟨_, Tryz.func13, by kernel_rfl, by kernel_rfl⟩
theorem q5p : ze Tryz.prog 126 := ⟨_, Tryz.func126, by kernel_rfl, by kernel_rfl⟩
theorem q83 : ze Tryz.prog 147 := ⟨_, Tryz.func147, by kernel_rfl, by kernel_rfl⟩
theorem q2u : ze Tryz.prog 41 := ⟨_, Tryz.func41, by kernel_rfl, by kernel_rfl⟩
theorem qjy : ze Tryz.prog 40 := ⟨_, Tryz.func40, by kernel_rfl, by kernel_rfl⟩
theorem q84 : ze Tryz.prog 59 := ⟨_, Tryz.func59, by kernel_rfl, by kernel_rfl⟩
theorem q2v : ze Tryz.prog 60 := ⟨_, Tryz.func60, by kernel_rfl, by kernel_rfl⟩
theorem qli : ze Tryz.prog 61 := ⟨_, Tryz.func61, by kernel_rfl, by kernel_rfl⟩
theorem q85 : ze Tryz.prog 64 := ⟨_, Tryz.func64, by kernel_rfl, by kernel_rfl⟩
theorem q86 : ze Tryz.prog 63 := ⟨_, Tryz.func63, by kernel_rfl, by kernel_rfl⟩
theorem q87 : ze Tryz.prog 65 := ⟨_, Tryz.func65, by kernel_rfl, by kernel_rfl⟩
theorem q2w : ze Tryz.prog 42 := ⟨_, Tryz.func42, by kernel_rfl, by kernel_rfl⟩
theorem q88 : ze Tryz.prog 43 := ⟨_, Tryz.func43, by kernel_rfl, by kernel_rfl⟩
theorem qjz : ze Tryz.prog 98 := ⟨_, Tryz.func98, by kernel_rfl, by kernel_rfl⟩
theorem q5q : ze Tryz.prog 95 := ⟨_, Tryz.func95, by kernel_rfl, by kernel_rfl⟩
theorem q2x : ze Tryz.prog 96 := ⟨_, Tryz.func96, by kernel_rfl, by kernel_rfl⟩
theorem q5r : ze Tryz.prog 97 := ⟨_, Tryz.func97, by kernel_rfl, by kernel_rfl⟩
theorem qup : ze Tryz.prog 131 := ⟨_, Tryz.func131, by kernel_rfl, by kernel_rfl⟩
theorem q89 : ze Tryz.prog 130 := ⟨_, Tryz.func130, by kernel_rfl, by kernel_rfl⟩
theorem q5s : ze Tryz.prog 50 := ⟨_, Tryz.func50, by kernel_rfl, by kernel_rfl⟩
theorem q5t : ze Tryz.prog 120 := ⟨_, Tryz.func120, by kernel_rfl, by kernel_rfl⟩
theorem q9a : ze Tryz.prog 122 := ⟨_, Tryz.func122, by kernel_rfl, by kernel_rfl⟩
theorem q9b : ze Tryz.prog 62 := ⟨_, Tryz.func62, by kernel_rfl, by kernel_rfl⟩
theorem q2y : ze Tryz.prog 102 := ⟨_, Tryz.func102, by kernel_rfl, by kernel_rfl⟩
theorem q5u : ze Tryz.prog 123 := ⟨_, Tryz.func123, by kernel_rfl, by kernel_rfl⟩
theorem q5v : ze Tryz.prog 47 := ⟨_, Tryz.func47, by kernel_rfl, by kernel_rfl⟩
theorem q9c : ze Tryz.prog 107 := ⟨_, Tryz.func107, by kernel_rfl, by kernel_rfl⟩
theorem q9d : ze Tryz.prog 121 := ⟨_, Tryz.func121, by kernel_rfl, by kernel_rfl⟩
theorem q9e : ze Tryz.prog 173 := ⟨_, Tryz.func173, by kernel_rfl, by kernel_rfl⟩
theorem q5w : ze Tryz.prog 101 := ⟨_, Tryz.func101, by kernel_rfl, by kernel_rfl⟩
theorem q9f : ze Tryz.prog 151 := ⟨_, Tryz.func151, by kernel_rfl, by kernel_rfl⟩
theorem q9g : ze Tryz.prog 152 := ⟨_, Tryz.func152, by kernel_rfl, by kernel_rfl⟩
theorem q9h : ze Tryz.prog 172 := ⟨_, Tryz.func172, by kernel_rfl, by kernel_rfl⟩
theorem K40 : ze Tryz.prog 128 := ⟨_, Tryz.func128, by kernel_rfl, by kernel_rfl⟩
theorem q9i : ze Tryz.prog 132 := ⟨_, Tryz.func132, by kernel_rfl, by kernel_rfl⟩
theorem q9j : ze Tryz.prog 178 := ⟨_, Tryz.func178, by kernel_rfl, by kernel_rfl⟩
theorem q5x : ze Tryz.prog 90 := ⟨_, Tryz.func90, by kernel_rfl, by kernel_rfl⟩
theorem q5y : ze Tryz.prog 194 := ⟨_, Tryz.func194, by kernel_rfl, by kernel_rfl⟩
theorem q9k : ze Tryz.prog 153 := ⟨_, Tryz.func153, by kernel_rfl, by kernel_rfl⟩
theorem q9l : ze Tryz.prog 182 := ⟨_, Tryz.func182, by kernel_rfl, by kernel_rfl⟩
theorem q2z : ze Tryz.prog 183 := ⟨_, Tryz.func183, by kernel_rfl, by kernel_rfl⟩
theorem q5z : ze Tryz.prog 184 := ⟨_, Tryz.func184, by kernel_rfl, by kernel_rfl⟩
theorem quq : ze Tryz.prog 185 := ⟨_, Tryz.func185, by kernel_rfl, by kernel_rfl⟩
theorem q9m : ze Tryz.prog 186 := ⟨_, Tryz.func186, by kernel_rfl, by kernel_rfl⟩
theorem qyl : ze Tryz.prog 187 := ⟨_, Tryz.func187, by kernel_rfl, by kernel_rfl⟩
theorem q9n : ze Tryz.prog 6 := ⟨_, Tryz.func6, by kernel_rfl, by kernel_rfl⟩
theorem qym : ze Tryz.prog 7 := ⟨_, Tryz.func7, by kernel_rfl, by kernel_rfl⟩
theorem q50 : ze Tryz.prog 9 := ⟨_, Tryz.func9, by kernel_rfl, by kernel_rfl⟩
theorem q51 : ze Tryz.prog 10 := ⟨_, Tryz.func10, by kernel_rfl, by kernel_rfl⟩
theorem qyn : ze Tryz.prog 11 := ⟨_, Tryz.func11, by kernel_rfl, by kernel_rfl⟩
theorem q9o : ze Tryz.prog 12 := ⟨_, Tryz.func12, by kernel_rfl, by kernel_rfl⟩
theorem q9p : ze Tryz.prog 14 := ⟨_, Tryz.func14, by kernel_rfl, by kernel_rfl⟩
theorem q9q : ze Tryz.prog 15 := ⟨_, Tryz.func15, by kernel_rfl, by kernel_rfl⟩
theorem q20 : ze Tryz.prog 16 := ⟨_, Tryz.func16, by kernel_rfl, by kernel_rfl⟩
theorem q52 : ze Tryz.prog 17 := ⟨_, Tryz.func17, by kernel_rfl, by kernel_rfl⟩
theorem q21 : ze Tryz.prog 18 := ⟨_, Tryz.func18, by kernel_rfl, by kernel_rfl⟩
theorem q9r : ze Tryz.prog 31 := ⟨_, Tryz.func31, by kernel_rfl, by kernel_rfl⟩
theorem q53 : ze Tryz.prog 32 := ⟨_, Tryz.func32, by kernel_rfl, by kernel_rfl⟩
theorem q9s : ze Tryz.prog 33 := ⟨_, Tryz.func33, by kernel_rfl, by kernel_rfl⟩
theorem q9t : ze Tryz.prog 34 := ⟨_, Tryz.func34, by kernel_rfl, by kernel_rfl⟩
theorem q9u : ze Tryz.prog 35 := ⟨_, Tryz.func35, by kernel_rfl, by kernel_rfl⟩
theorem q22 : ze Tryz.prog 37 := ⟨_, Tryz.func37, by kernel_rfl, by kernel_rfl⟩
theorem q9v : ze Tryz.prog 38 := ⟨_, Tryz.func38, by kernel_rfl, by kernel_rfl⟩
theorem q54 : ze Tryz.prog 39 := ⟨_, Tryz.func39, by kernel_rfl, by kernel_rfl⟩
theorem q9w : ze Tryz.prog 44 := ⟨_, Tryz.func44, by kernel_rfl, by kernel_rfl⟩
theorem q9x : ze Tryz.prog 45 := ⟨_, Tryz.func45, by kernel_rfl, by kernel_rfl⟩
theorem q9y : ze Tryz.prog 46 := ⟨_, Tryz.func46, by kernel_rfl, by kernel_rfl⟩
theorem qip : ze Tryz.prog 49 := ⟨_, Tryz.func49, by kernel_rfl, by kernel_rfl⟩
theorem q9z : ze Tryz.prog 51 := ⟨_, Tryz.func51, by kernel_rfl, by kernel_rfl⟩
theorem q90 : ze Tryz.prog 56 := ⟨_, Tryz.func56, by kernel_rfl, by kernel_rfl⟩
theorem qyo : ze Tryz.prog 57 := ⟨_, Tryz.func57, by kernel_rfl, by kernel_rfl⟩
theorem q91 : ze Tryz.prog 69 := ⟨_, Tryz.func69, by kernel_rfl, by kernel_rfl⟩
theorem q92 : ze Tryz.prog 70 := ⟨_, Tryz.func70, by kernel_rfl, by kernel_rfl⟩
theorem q93 : ze Tryz.prog 71 := ⟨_, Tryz.func71, by kernel_rfl, by kernel_rfl⟩
theorem q55 : ze Tryz.prog 72 := ⟨_, Tryz.func72, by kernel_rfl, by kernel_rfl⟩
theorem q94 : ze Tryz.prog 73 := ⟨_, Tryz.func73, by kernel_rfl, by kernel_rfl⟩
theorem q95 : ze Tryz.prog 74 := ⟨_, Tryz.func74, by kernel_rfl, by kernel_rfl⟩
theorem q96 : ze Tryz.prog 75 := ⟨_, Tryz.func75, by kernel_rfl, by kernel_rfl⟩
theorem q56 : ze Tryz.prog 76 := ⟨_, Tryz.func76, by kernel_rfl, by kernel_rfl⟩
theorem q97 : ze Tryz.prog 77 := ⟨_, Tryz.func77, by kernel_rfl, by kernel_rfl⟩
theorem q98 : ze Tryz.prog 78 := ⟨_, Tryz.func78, by kernel_rfl, by kernel_rfl⟩
theorem q99 : ze Tryz.prog 79 := ⟨_, Tryz.func79, by kernel_rfl, by kernel_rfl⟩
theorem zaa : ze Tryz.prog 82 := ⟨_, Tryz.func82, by kernel_rfl, by kernel_rfl⟩
theorem qfc : ze Tryz.prog 83 := ⟨_, Tryz.func83, by kernel_rfl, by kernel_rfl⟩
theorem zab : ze Tryz.prog 84 := ⟨_, Tryz.func84, by kernel_rfl, by kernel_rfl⟩
theorem zac : ze Tryz.prog 85 := ⟨_, Tryz.func85, by kernel_rfl, by kernel_rfl⟩
theorem zad : ze Tryz.prog 86 := ⟨_, Tryz.func86, by kernel_rfl, by kernel_rfl⟩
theorem q23 : ze Tryz.prog 87 := ⟨_, Tryz.func87, by kernel_rfl, by kernel_rfl⟩
theorem zae : ze Tryz.prog 88 := ⟨_, Tryz.func88, by kernel_rfl, by kernel_rfl⟩
theorem zaf : ze Tryz.prog 89 := ⟨_, Tryz.func89, by kernel_rfl, by kernel_rfl⟩
theorem zag : ze Tryz.prog 91 := ⟨_, Tryz.func91, by kernel_rfl, by kernel_rfl⟩
theorem zah : ze Tryz.prog 92 := ⟨_, Tryz.func92, by kernel_rfl, by kernel_rfl⟩
theorem zai : ze Tryz.prog 94 := ⟨_, Tryz.func94, by kernel_rfl, by kernel_rfl⟩
theorem zaj : ze Tryz.prog 100 := ⟨_, Tryz.func100, by kernel_rfl, by kernel_rfl⟩
theorem q24 : ze Tryz.prog 108 := ⟨_, Tryz.func108, by kernel_rfl, by kernel_rfl⟩
theorem zak : ze Tryz.prog 109 := ⟨_, Tryz.func109, by kernel_rfl, by kernel_rfl⟩
theorem zal : ze Tryz.prog 110 := ⟨_, Tryz.func110, by kernel_rfl, by kernel_rfl⟩
theorem q57 : ze Tryz.prog 111 := ⟨_, Tryz.func111, by kernel_rfl, by kernel_rfl⟩
theorem zam : ze Tryz.prog 116 := ⟨_, Tryz.func116, by kernel_rfl, by kernel_rfl⟩
theorem zan : ze Tryz.prog 117 := ⟨_, Tryz.func117, by kernel_rfl, by kernel_rfl⟩
theorem qyp : ze Tryz.prog 118 := ⟨_, Tryz.func118, by kernel_rfl, by kernel_rfl⟩
theorem q58 : ze Tryz.prog 134 := ⟨_, Tryz.func134, by kernel_rfl, by kernel_rfl⟩
theorem q25 : ze Tryz.prog 135 := ⟨_, Tryz.func135, by kernel_rfl, by kernel_rfl⟩
theorem zao : ze Tryz.prog 136 := ⟨_, Tryz.func136, by kernel_rfl, by kernel_rfl⟩
theorem zap : ze Tryz.prog 137 := ⟨_, Tryz.func137, by kernel_rfl, by kernel_rfl⟩
theorem zaq : ze Tryz.prog 140 := ⟨_, Tryz.func140, by kernel_rfl, by kernel_rfl⟩
theorem zar : ze Tryz.prog 141 := ⟨_, Tryz.func141, by kernel_rfl, by kernel_rfl⟩
theorem q59 : ze Tryz.prog 145 := ⟨_, Tryz.func145, by kernel_rfl, by kernel_rfl⟩
theorem zas : ze Tryz.prog 146 := ⟨_, Tryz.func146, by kernel_rfl, by kernel_rfl⟩
theorem zat : ze Tryz.prog 150 := ⟨_, Tryz.func150, by kernel_rfl, by kernel_rfl⟩
theorem zau : ze Tryz.prog 154 := ⟨_, Tryz.func154, by kernel_rfl, by kernel_rfl⟩
theorem zav : ze Tryz.prog 155 := ⟨_, Tryz.func155, by kernel_rfl, by kernel_rfl⟩
theorem zaw : ze Tryz.prog 156 := ⟨_, Tryz.func156, by kernel_rfl, by kernel_rfl⟩
theorem zax : ze Tryz.prog 157 := ⟨_, Tryz.func157, by kernel_rfl, by kernel_rfl⟩
theorem zay : ze Tryz.prog 158 := ⟨_, Tryz.func158, by kernel_rfl, by kernel_rfl⟩
theorem zaz : ze Tryz.prog 159 := ⟨_, Tryz.func159, by kernel_rfl, by kernel_rfl⟩
theorem za0 : ze Tryz.prog 160 := ⟨_, Tryz.func160, by kernel_rfl, by kernel_rfl⟩
theorem za1 : ze Tryz.prog 188 := ⟨_, Tryz.func188, by kernel_rfl, by kernel_rfl⟩
theorem K69 : ze Tryz.prog 127 := ⟨_, Tryz.func127, by kernel_rfl, by kernel_rfl⟩
theorem K88 : ze Tryz.prog 115 := ⟨_, Tryz.func115, by kernel_rfl, by kernel_rfl⟩
theorem K89 : ze Tryz.prog 133 := ⟨_, Tryz.func133, by kernel_rfl, by kernel_rfl⟩
theorem K90 : ze Tryz.prog 139 := ⟨_, Tryz.func139, by kernel_rfl, by kernel_rfl⟩
theorem K91 : ze Tryz.prog 129 := ⟨_, Tryz.func129, by kernel_rfl, by kernel_rfl⟩
theorem K92 : ze Tryz.prog 138 := ⟨_, Tryz.func138, by kernel_rfl, by kernel_rfl⟩
theorem q6a : appK Tryz.prog 35 = some (9, 1, 16) := by kernel_rfl
theorem za2 : appK Tryz.prog 38 = some (3, 1, 8) := by kernel_rfl
theorem qm4 : appK Tryz.prog 40 = some (101, 16, 216) := by kernel_rfl
theorem qur : appK Tryz.prog 41 = some (105, 14, 160) := by kernel_rfl
theorem qm5 : appK Tryz.prog 48 = some (53, 7, 80) := by kernel_rfl
theorem qus : appK Tryz.prog 56 = some (60, 3, 24) := by kernel_rfl
theorem q26 : appK Tryz.prog 91 = some (138, 11, 112) := by kernel_rfl
theorem qqp : appK Tryz.prog 99 = some (104, 3, 32) := by kernel_rfl
theorem qbq : z8 Tryz.prog 101 0 = some (0, 13, true) := by kernel_rfl
theorem qjd : z8 Tryz.prog 101 1 = some (13, 1, false) := by kernel_rfl
theorem qbr : z8 Tryz.prog 101 2 = some (14, 1, false) := by kernel_rfl
theorem qf2 : z8 Tryz.prog 101 3 = some (15, 1, false) := by kernel_rfl
theorem qm6 : z8 Tryz.prog 103 0 = some (0, 1, false) := by kernel_rfl
theorem qje : z8 Tryz.prog 103 1 = some (1, 1, false) := by kernel_rfl
theorem qjf : z8 Tryz.prog 103 2 = some (2, 1, false) := by kernel_rfl
theorem qm7 : z8 Tryz.prog 104 0 = some (0, 1, false) := by kernel_rfl
theorem qem : z8 Tryz.prog 104 1 = some (1, 1, false) := by kernel_rfl
theorem qen : z8 Tryz.prog 104 2 = some (2, 1, false) := by kernel_rfl
theorem qeo : z8 Tryz.prog 105 0 = some (0, 13, true) := by kernel_rfl
theorem qm8 : z8 Tryz.prog 105 1 = some (13, 1, false) := by kernel_rfl
theorem qjg : z8 Tryz.prog 138 0 = some (0, 1, false) := by kernel_rfl
theorem qjh : z8 Tryz.prog 138 1 = some (1, 1, false) := by kernel_rfl
theorem qrq : z8 Tryz.prog 138 2 = some (2, 1, false) := by kernel_rfl
theorem qyq : z8 Tryz.prog 138 3 = some (3, 1, false) := by kernel_rfl
theorem qji : z8 Tryz.prog 138 4 = some (4, 1, false) := by kernel_rfl
theorem qm9 : z8 Tryz.prog 138 5 = some (5, 1, false) := by kernel_rfl
theorem qna : z8 Tryz.prog 138 6 = some (6, 1, false) := by kernel_rfl
theorem qnb : z8 Tryz.prog 138 7 = some (7, 3, true) := by kernel_rfl
theorem qyr : z8 Tryz.prog 138 8 = some (10, 1, false) := by kernel_rfl
theorem xn : z8 Tryz.prog 26 0 = some (0, 1, false) := by kernel_rfl
theorem qah : z8 Tryz.prog 26 1 = some (1, 1, false) := by kernel_rfl
theorem qa3 : z8 Tryz.prog 31 0 = some (0, 1, false) := by kernel_rfl
theorem qa4 : z8 Tryz.prog 31 1 = some (1, 1, false) := by kernel_rfl
theorem qlu : z8 Tryz.prog 31 2 = some (2, 1, false) := by kernel_rfl
theorem kh : z8 Tryz.prog 33 0 = some (0, 1, false) := by kernel_rfl
theorem qj0 : z8 Tryz.prog 33 1 = some (1, 1, false) := by kernel_rfl
theorem qf3 : z8 Tryz.prog 33 10 = some (12, 1, false) := by kernel_rfl
theorem qd3 : z8 Tryz.prog 33 2 = some (2, 1, false) := by kernel_rfl
theorem qfn : z8 Tryz.prog 33 3 = some (3, 1, false) := by kernel_rfl
theorem qqq : z8 Tryz.prog 33 4 = some (4, 1, false) := by kernel_rfl
theorem qg9 : z8 Tryz.prog 33 5 = some (5, 1, false) := by kernel_rfl
theorem vt : z8 Tryz.prog 33 6 = some (6, 3, true) := by kernel_rfl
theorem qha : z8 Tryz.prog 33 7 = some (9, 1, false) := by kernel_rfl
theorem qj1 : z8 Tryz.prog 33 8 = some (10, 1, false) := by kernel_rfl
theorem qj2 : z8 Tryz.prog 33 9 = some (11, 1, false) := by kernel_rfl
theorem xe : z8 Tryz.prog 37 0 = some (0, 13, true) := by kernel_rfl
theorem qep : z8 Tryz.prog 37 1 = some (13, 1, false) := by kernel_rfl
theorem qai : z8 Tryz.prog 37 2 = some (14, 1, false) := by kernel_rfl
theorem qbb : z8 Tryz.prog 37 3 = some (15, 1, false) := by kernel_rfl
theorem xw : z8 Tryz.prog 43 0 = some (0, 1, false) := by kernel_rfl
theorem qcy : z8 Tryz.prog 43 1 = some (1, 1, false) := by kernel_rfl
theorem wd : z8 Tryz.prog 53 0 = some (0, 1, false) := by kernel_rfl
theorem qcz : z8 Tryz.prog 53 1 = some (1, 1, false) := by kernel_rfl
theorem qjj : z8 Tryz.prog 53 2 = some (2, 1, false) := by kernel_rfl
theorem qys : z8 Tryz.prog 53 3 = some (3, 1, false) := by kernel_rfl
theorem qyt : z8 Tryz.prog 53 4 = some (4, 1, false) := by kernel_rfl
theorem qyu : z8 Tryz.prog 53 5 = some (5, 1, false) := by kernel_rfl
theorem qnc : z8 Tryz.prog 53 6 = some (6, 1, false) := by kernel_rfl
theorem qf4 : z8 Tryz.prog 60 0 = some (0, 1, false) := by kernel_rfl
theorem qeq : z8 Tryz.prog 60 2 = some (2, 1, false) := by kernel_rfl
theorem qnd : z8 Tryz.prog 62 0 = some (0, 1, false) := by kernel_rfl
theorem qrr : z8 Tryz.prog 62 1 = some (1, 1, false) := by kernel_rfl
theorem qne : z8 Tryz.prog 62 2 = some (2, 1, false) := by kernel_rfl
theorem qf5 : z8 Tryz.prog 62 3 = some (3, 1, false) := by kernel_rfl
theorem qf6 : z8 Tryz.prog 62 4 = some (4, 1, false) := by kernel_rfl
theorem qnf : z8 Tryz.prog 62 5 = some (5, 1, false) := by kernel_rfl
theorem qng : z8 Tryz.prog 62 6 = some (6, 1, false) := by kernel_rfl
theorem qjk : z8 Tryz.prog 62 7 = some (7, 3, true) := by kernel_rfl
theorem qf7 : z8 Tryz.prog 62 8 = some (10, 1, false) := by kernel_rfl
theorem qdu : z8 Tryz.prog 73 0 = some (0, 13, true) := by kernel_rfl
theorem qf8 : z8 Tryz.prog 73 1 = some (13, 1, false) := by kernel_rfl
theorem q09 : qaj Tryz.prog 101 = some [(0, 13), (13, 1), (14, 1), (15, 1)] := by kernel_rfl
theorem q6b : qaj Tryz.prog 104 = some [(0, 1), (1, 1), (2, 1)] := by kernel_rfl
theorem pl46 : qaj Tryz.prog 31 = some [(0, 1), (1, 1), (2, 1)] := by kernel_rfl
theorem za3 : qaj Tryz.prog 33 = some [(0, 1), (1, 1), (2, 1), (3, 1), (4, 1), (5, 1), (6, 3), (9, 1), (10, 1), (11, 1), (12, 1)] := by kernel_rfl
theorem qfi : qaj Tryz.prog 43 = some [(0, 1), (1, 1)] := by kernel_rfl
theorem qrs : qaj Tryz.prog 53 = some [(0, 1), (1, 1), (2, 1), (3, 1), (4, 1), (5, 1), (6, 1)] := by kernel_rfl
theorem q1a : qaj Tryz.prog 60 = some [(0, 1), (1, 1), (2, 1)] := by kernel_rfl
theorem q6c : qaj Tryz.prog 62 = some [(0, 1), (1, 1), (2, 1), (3, 1), (4, 1), (5, 1), (6, 1), (7, 3), (10, 1)] := by kernel_rfl
theorem xd : tyK Tryz.prog 101 = some (16, true) := by kernel_rfl
theorem qd4 : tyK Tryz.prog 103 = some (3, true) := by kernel_rfl
theorem qbp : tyK Tryz.prog 104 = some (3, true) := by kernel_rfl
theorem qfj : tyK Tryz.prog 105 = some (14, true) := by kernel_rfl
theorem q1b : tyK Tryz.prog 132 = some (1, false) := by kernel_rfl
theorem qcl : tyK Tryz.prog 138 = some (11, true) := by kernel_rfl
theorem qow : tyK Tryz.prog 22 = some (1, false) := by kernel_rfl
theorem qcm : tyK Tryz.prog 23 = some (1, false) := by kernel_rfl
theorem qd5 : tyK Tryz.prog 24 = some (1, false) := by kernel_rfl
theorem qox : tyK Tryz.prog 26 = some (2, true) := by kernel_rfl
theorem ty3 : tyK Tryz.prog 3 = some (1, false) := by kernel_rfl
theorem ty46 : tyK Tryz.prog 31 = some (3, true) := by kernel_rfl
theorem qab : tyK Tryz.prog 33 = some (13, true) := by kernel_rfl
theorem qd6 : tyK Tryz.prog 34 = some (1, false) := by kernel_rfl
theorem ty22 : tyK Tryz.prog 35 = some (1, false) := by kernel_rfl
theorem qc0 : tyK Tryz.prog 37 = some (16, true) := by kernel_rfl
theorem ty4 : tyK Tryz.prog 4 = some (1, false) := by kernel_rfl
theorem qc1 : tyK Tryz.prog 40 = some (1, false) := by kernel_rfl
theorem qie : tyK Tryz.prog 41 = some (1, false) := by kernel_rfl
theorem jc : tyK Tryz.prog 43 = some (2, true) := by kernel_rfl
theorem ty37 : tyK Tryz.prog 44 = some (1, false) := by kernel_rfl
theorem qut : tyK Tryz.prog 48 = some (1, false) := by kernel_rfl
theorem ty5 : tyK Tryz.prog 5 = some (1, false) := by kernel_rfl
theorem z7 : tyK Tryz.prog 53 = some (7, true) := by kernel_rfl
theorem quu : tyK Tryz.prog 56 = some (1, false) := by kernel_rfl
theorem qak : tyK Tryz.prog 60 = some (3, true) := by kernel_rfl
theorem vy : tyK Tryz.prog 62 = some (11, true) := by kernel_rfl
theorem qj3 : tyK Tryz.prog 63 = some (6, true) := by kernel_rfl
theorem qc2 : tyK Tryz.prog 73 = some (14, true) := by kernel_rfl
theorem ty9 : tyK Tryz.prog 9 = some (1, false) := by kernel_rfl
theorem qf9 : tyK Tryz.prog 99 = some (1, false) := by kernel_rfl
theorem qj4 : vq Tryz.prog 101 = some [.string ByteArray.empty, .string ByteArray.empty, .string ByteArray.empty, .string ByteArray.empty, .string ByteArray.empty, .string ByteArray.empty, .int .i64 0, .int .i64 0, .int .i64 0, .int .i64 0, .int .i64 0, .int .i64 0, .int .i64 0, .string ByteArray.empty, .slice none 0 0, .slice none 0 0] := by kernel_rfl
theorem za4 : vq Tryz.prog 103 = some [.string ByteArray.empty, .int .i64 0, .int .i64 0] := by kernel_rfl
theorem qqr : vq Tryz.prog 104 = some [.string ByteArray.empty, .int .i64 0, .int .i64 0] := by kernel_rfl
theorem q6d : vq Tryz.prog 105 = some [.string ByteArray.empty, .string ByteArray.empty, .string ByteArray.empty, .string ByteArray.empty, .string ByteArray.empty, .string ByteArray.empty, .int .i64 0, .int .i64 0, .int .i64 0, .int .i64 0, .int .i64 0, .int .i64 0, .int .i64 0, .int .i64 0] := by kernel_rfl
theorem za5 : vq Tryz.prog 132 = some [.slice none 0 0] := by kernel_rfl
theorem za6 : vq Tryz.prog 138 = some [.string ByteArray.empty, .string ByteArray.empty, .string ByteArray.empty, .int .i64 0, .int .i64 0, .int .i64 0, .int .i64 0, .int .i64 0, .int .i64 0, .int .i64 0, .int .i64 0] := by kernel_rfl
theorem za7 : vq Tryz.prog 174 = some [.int .i64 0, .int .i64 0] := by kernel_rfl
theorem z3 : vq Tryz.prog 3 = some [.int .i64 0] := by kernel_rfl
theorem z46 : vq Tryz.prog 31 = some [.int .i64 0, .int .i64 0, .int .i64 0] := by kernel_rfl
theorem z116 : vq Tryz.prog 33 = some [.string ByteArray.empty, .string ByteArray.empty, .string ByteArray.empty, .string ByteArray.empty, .string ByteArray.empty, .string ByteArray.empty, .int .i64 0, .int .i64 0, .int .i64 0, .int .i64 0, .int .i64 0, .int .i64 0, .int .i64 0] := by kernel_rfl
theorem q6e : vq Tryz.prog 37 = some [.string ByteArray.empty, .string ByteArray.empty, .string ByteArray.empty, .string ByteArray.empty, .string ByteArray.empty, .string ByteArray.empty, .int .i64 0, .int .i64 0, .int .i64 0, .int .i64 0, .int .i64 0, .int .i64 0, .int .i64 0, .string ByteArray.empty, .slice none 0 0, .slice none 0 0] := by kernel_rfl
theorem qbm : vq Tryz.prog 43 = some [.slice none 0 0, .slice none 0 0] := by kernel_rfl
theorem z37 : vq Tryz.prog 44 = some [.int .i64 0] := by kernel_rfl
theorem za8 : vq Tryz.prog 48 = some [.slice none 0 0] := by kernel_rfl
theorem qlj : vq Tryz.prog 53 = some [.int .i64 0, .string ByteArray.empty, .string ByteArray.empty, .int .i64 0, .int .i64 0, .int .i64 0, .string ByteArray.empty] := by kernel_rfl
theorem qj5 : vq Tryz.prog 60 = some [.int .i64 0, .int .i64 0, .int .i64 0] := by kernel_rfl
theorem quv : vq Tryz.prog 62 = some [.string ByteArray.empty, .string ByteArray.empty, .string ByteArray.empty, .int .i64 0, .int .i64 0, .int .i64 0, .int .i64 0, .int .i64 0, .int .i64 0, .int .i64 0, .int .i64 0] := by kernel_rfl
theorem quw : vq Tryz.prog 63 = some [.int .i64 0, .int .i64 0, .int .i64 0, .int .i64 0, .int .i64 0, .int .i64 0] := by kernel_rfl
theorem q6f : vq Tryz.prog 73 = some [.string ByteArray.empty, .string ByteArray.empty, .string ByteArray.empty, .string ByteArray.empty, .string ByteArray.empty, .string ByteArray.empty, .int .i64 0, .int .i64 0, .int .i64 0, .int .i64 0, .int .i64 0, .int .i64 0, .int .i64 0, .int .i64 0] := by kernel_rfl
theorem z9 : vq Tryz.prog 9 = some [.string ByteArray.empty] := by kernel_rfl
theorem qyv : qfd Tryz.prog 60 104 = some [.str, .int .i64, .int .i64] ∧ qfo Tryz.prog 104 = true ∧ Tryz.prog.eqGuardType Tryz.prog.depth 104 = false := ⟨by kernel_rfl, by kernel_rfl, by kernel_rfl⟩
theorem qyw : qfd Tryz.prog 60 60 = some [.int .i64, .int .i64, .int .i64] ∧ qfo Tryz.prog 60 = true ∧ Tryz.prog.eqGuardType Tryz.prog.depth 60 = false := ⟨by kernel_rfl, by kernel_rfl, by kernel_rfl⟩
theorem q6g : mkK Tryz.prog 41 = some (105, 14, 160, [.string ByteArray.empty, .string ByteArray.empty, .string ByteArray.empty, .string ByteArray.empty, .string ByteArray.empty, .string ByteArray.empty, .int .i64 0, .int .i64 0, .int .i64 0, .int .i64 0, .int .i64 0, .int .i64 0, .int .i64 0, .int .i64 0]) := by kernel_rfl
theorem zr4 : (Tryz.prog.info? 4).bind (·.zero) = some (.bool false) := by kernel_rfl
end Go.Sim
