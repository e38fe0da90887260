/-
  What is proved: facts of the types and the functions, and the structures of the program.
-/
import Derived.Test.YtnknncfgbefpeaaGreatVrA5
set_option linter.unusedSectionVars false
set_option linter.unusedSimpArgs false
set_option linter.unusedVariables false
set_option linter.unnecessarySimpa false
set_option linter.deprecated false
set_option maxRecDepth 10000
namespace Go.Sim
open Go.Proofs
structure S7 where
 x : Int
 y : Int
 signed : Bool
 code : Int
 deriving DecidableEq, Inhabited
abbrev S7.c (x : S7) : List G := [G.int x.x, G.int x.y, G.bool x.signed, G.lit (.int .u8 x.code)]
structure S13 where
 msg : ByteArray
 addr : Int
 deriving DecidableEq, Inhabited
abbrev S13.c (x : S13) : List G := [G.str x.msg, G.lit (.int .u64 x.addr)]
structure S45 where
 fFrom : Int
 fTo : Int
 Days : Int
 deriving DecidableEq, Inhabited
abbrev S45.c (x : S45) : List G := [G.int x.fFrom, G.int x.fTo, G.int x.Days]
structure S115 where
 Name : ByteArray
 Carrier : ByteArray
 Kind : ByteArray
 Terminal : ByteArray
 Partner : ByteArray
 Link : ByteArray
 Period : S45
 Minute : Int
 Seats : Int
 Size : Int
 Noise : Int
 deriving DecidableEq, Inhabited
abbrev S115.c (x : S115) : List G := [G.str x.Name, G.str x.Carrier, G.str x.Kind, G.str x.Terminal, G.str x.Partner, G.str x.Link, G.int x.Period.fFrom, G.int x.Period.fTo, G.int x.Period.Days, G.int x.Minute, G.int x.Seats, G.int x.Size, G.int x.Noise]
structure S4026 where
 Request : S115
 Historic : Bool
 Retimed : Bool
 Newcomer : Bool
 Yearround : Bool
 Distance : Int
 deriving DecidableEq, Inhabited
abbrev S4026.c (x : S4026) : List G := [G.str x.Request.Name, G.str x.Request.Carrier, G.str x.Request.Kind, G.str x.Request.Terminal, G.str x.Request.Partner, G.str x.Request.Link, G.int x.Request.Period.fFrom, G.int x.Request.Period.fTo, G.int x.Request.Period.Days, G.int x.Request.Minute, G.int x.Request.Seats, G.int x.Request.Size, G.int x.Request.Noise, G.bool x.Historic, G.bool x.Retimed, G.bool x.Newcomer, G.bool x.Yearround, G.int x.Distance]
structure S4065 where
 Fact : ByteArray
 Op : ByteArray
 Value : Int
 deriving DecidableEq, Inhabited
abbrev S4065.c (x : S4065) : List G := [G.str x.Fact, G.str x.Op, G.int x.Value]
structure S4063 where
 Fact : ByteArray
 Down : Bool
 deriving DecidableEq, Inhabited
abbrev S4063.c (x : S4063) : List G := [G.str x.Fact, G.bool x.Down]
structure S4069 where
 Name : ByteArray
 When : List S4065
 By : List S4063
 deriving DecidableEq, Inhabited
abbrev S4069.c (x : S4069) : List G := [G.str x.Name, G.sl 3 (List.map S4065.c x.When), G.sl 2 (List.map S4063.c x.By)]
structure S4040 where
 Classes : List S4069
 Pool : Int
 Of : Int
 For : Int
 deriving DecidableEq, Inhabited
abbrev S4040.c (x : S4040) : List G := [G.sl 3 (List.map S4069.c x.Classes), G.int x.Pool, G.int x.Of, G.int x.For]
structure S4059 where
 program : S4040
 claims : List S4026
 lots : List Int
 deriving DecidableEq, Inhabited
abbrev S4059.c (x : S4059) : List G := [G.sl 3 (List.map S4069.c x.program.Classes), G.int x.program.Pool, G.int x.program.Of, G.int x.program.For, G.sl 18 (List.map S4026.c x.claims), G.sl 1 (List.map cInt x.lots)]
structure S4076 where
 name : ByteArray
 of : Nat
 deriving DecidableEq, Inhabited
abbrev S4076.c (x : S4076) : List G := [G.str x.name, kfG x.of]
theorem K102 : Known Tryz.prog 57 := ⟨_, Tryz.func57, by kernel_rfl, by kernel_rfl⟩
theorem K109 : Known Tryz.prog 54 := ⟨_, Tryz.func54, by kernel_rfl, by kernel_rfl⟩
theorem qw3 : Known Tryz.prog 51 := ⟨_, Tryz.func51, by kernel_rfl, by kernel_rfl⟩
theorem qw4 : Known Tryz.prog 48 := ⟨_, Tryz.func48, by kernel_rfl, by kernel_rfl⟩
theorem K133 : Known Tryz.prog 44 := ⟨_, Tryz.func44, by kernel_rfl, by kernel_rfl⟩
theorem K135 : Known Tryz.prog 58 := ⟨_, Tryz.func58, by kernel_rfl, by kernel_rfl⟩
theorem K136 : Known Tryz.prog 59 := ⟨_, Tryz.func59, by kernel_rfl, by kernel_rfl⟩
theorem K147 : Known Tryz.prog 107 := ⟨_, Tryz.func107, by kernel_rfl, by kernel_rfl⟩
theorem K148 : Known Tryz.prog 126 := ⟨_, Tryz.func126, by kernel_rfl, by kernel_rfl⟩
theorem K152 : Known Tryz.prog 26 := ⟨_, Tryz.func26, by kernel_rfl, by kernel_rfl⟩
theorem K153 : Known Tryz.prog 88 := ⟨_, Tryz.func88, by kernel_rfl, by kernel_rfl⟩
theorem K154 : Known Tryz.prog 53 := ⟨_, Tryz.func53, by kernel_rfl, by kernel_rfl⟩
theorem K155 : Known Tryz.prog 27 := ⟨_, Tryz.func27, by kernel_rfl, by kernel_rfl⟩
theorem K167 : Known Tryz.prog 69 := ⟨_, Tryz.func69, by kernel_rfl, by kernel_rfl⟩
theorem K182 : Known Tryz.prog 63 := ⟨_, Tryz.func63, by kernel_rfl, by kernel_rfl⟩
theorem K183 : Known Tryz.prog 64 := ⟨_, Tryz.func64, by kernel_rfl, by kernel_rfl⟩
theorem K202 : Known Tryz.prog 106 := ⟨_, Tryz.func106, by kernel_rfl, by kernel_rfl⟩
theorem K252 : Known Tryz.prog 92 := ⟨_, Tryz.func92, by kernel_rfl, by kernel_rfl⟩
theorem K40 : Known Tryz.prog 32 := ⟨_, Tryz.func32, by kernel_rfl, by kernel_rfl⟩
theorem qw5 : Known Tryz.prog 4 := ⟨_, Tryz.func4, by kernel_rfl, by kernel_rfl⟩
theorem qw6 : Known Tryz.prog 5 := ⟨_, Tryz.func5, by kernel_rfl, by kernel_rfl⟩
theorem quk : Known Tryz.prog 6 := ⟨_, Tryz.func6, by kernel_rfl, by kernel_rfl⟩
theorem qw7 : Known Tryz.prog 7 := ⟨_, Tryz.func7, by kernel_rfl, by kernel_rfl⟩
theorem qr4 : Known Tryz.prog 8 := ⟨_, Tryz.func8, by kernel_rfl, by kernel_rfl⟩
theorem qr5 : Known Tryz.prog 9 := ⟨_, Tryz.func9, by kernel_rfl, by kernel_rfl⟩
theorem qul : Known Tryz.prog 10 := ⟨_, Tryz.func10, by kernel_rfl, by kernel_rfl⟩
theorem qum : Known Tryz.prog 11 := ⟨_, Tryz.func11, by kernel_rfl, by kernel_rfl⟩
theorem qun : Known Tryz.prog 12 := ⟨_, Tryz.func12, by kernel_rfl, by kernel_rfl⟩
theorem qw8 : Known Tryz.prog 14 := ⟨_, Tryz.func14, by kernel_rfl, by kernel_rfl⟩
theorem qw9 : Known Tryz.prog 16 := ⟨_, Tryz.func16, by kernel_rfl, by kernel_rfl⟩
theorem qup : Known Tryz.prog 17 := ⟨_, Tryz.func17, by kernel_rfl, by kernel_rfl⟩
theorem qbl : Known Tryz.prog 19 := ⟨_, Tryz.func19, by kernel_rfl, by kernel_rfl⟩
theorem qr6 : Known Tryz.prog 20 := ⟨_, Tryz.func20, by kernel_rfl, by kernel_rfl⟩
theorem qr7 : Known Tryz.prog 21 := ⟨_, Tryz.func21, by kernel_rfl, by kernel_rfl⟩
theorem qr8 : Known Tryz.prog 22 := ⟨_, Tryz.func22, by kernel_rfl, by kernel_rfl⟩
theorem qxa : Known Tryz.prog 23 := ⟨_, Tryz.func23, by kernel_rfl, by kernel_rfl⟩
theorem qxb : Known Tryz.prog 24 := ⟨_, Tryz.func24, by kernel_rfl, by kernel_rfl⟩
theorem qxc : Known Tryz.prog 25 := ⟨_, Tryz.func25, by kernel_rfl, by kernel_rfl⟩
theorem qa7 : Known Tryz.prog 28 := ⟨_, Tryz.func28, by kernel_rfl, by kernel_rfl⟩
theorem qxd : Known Tryz.prog 29 := ⟨_, Tryz.func29, by kernel_rfl, by kernel_rfl⟩
theorem quq : Known Tryz.prog 31 := ⟨_, Tryz.func31, by kernel_rfl, by kernel_rfl⟩
theorem qr9 : Known Tryz.prog 33 := ⟨_, Tryz.func33, by kernel_rfl, by kernel_rfl⟩
theorem qur : Known Tryz.prog 34 := ⟨_, Tryz.func34, by kernel_rfl, by kernel_rfl⟩
theorem qli : Known Tryz.prog 36 := ⟨_, Tryz.func36, by kernel_rfl, by kernel_rfl⟩
theorem qxe : Known Tryz.prog 37 := ⟨_, Tryz.func37, by kernel_rfl, by kernel_rfl⟩
theorem qxf : Known Tryz.prog 38 := ⟨_, Tryz.func38, by kernel_rfl, by kernel_rfl⟩
theorem qxg : Known Tryz.prog 39 := ⟨_, Tryz.func39, by kernel_rfl, by kernel_rfl⟩
theorem qxh : Known Tryz.prog 40 := ⟨_, Tryz.func40, by kernel_rfl, by kernel_rfl⟩
theorem qus : Known Tryz.prog 41 := ⟨_, Tryz.func41, by kernel_rfl, by kernel_rfl⟩
theorem qut : Known Tryz.prog 42 := ⟨_, Tryz.func42, by kernel_rfl, by kernel_rfl⟩
theorem qxi : Known Tryz.prog 43 := ⟨_, Tryz.func43, by kernel_rfl, by kernel_rfl⟩
theorem qxj : Known Tryz.prog 45 := ⟨_, Tryz.func45, by kernel_rfl, by kernel_rfl⟩
theorem qxk : Known Tryz.prog 46 := ⟨_, Tryz.func46, by kernel_rfl, by kernel_rfl⟩
theorem qxl : Known Tryz.prog 47 := ⟨_, Tryz.func47, by kernel_rfl, by kernel_rfl⟩
theorem qxm : Known Tryz.prog 49 := ⟨_, Tryz.func49, by kernel_rfl, by kernel_rfl⟩
theorem qsa : Known Tryz.prog 50 := ⟨_, Tryz.func50, by kernel_rfl, by kernel_rfl⟩
theorem qxn : Known Tryz.prog 52 := ⟨_, Tryz.func52, by kernel_rfl, by kernel_rfl⟩
theorem quu : Known Tryz.prog 55 := ⟨_, Tryz.func55, by kernel_rfl, by kernel_rfl⟩
theorem qxo : Known Tryz.prog 56 := ⟨_, Tryz.func56, by kernel_rfl, by kernel_rfl⟩
theorem qxp : Known Tryz.prog 61 := ⟨_, Tryz.func61, by kernel_rfl, by kernel_rfl⟩
theorem qxq : Known Tryz.prog 62 := ⟨_, Tryz.func62, by kernel_rfl, by kernel_rfl⟩
theorem qxr : Known Tryz.prog 65 := ⟨_, Tryz.func65, by kernel_rfl, by kernel_rfl⟩
theorem qxs : Known Tryz.prog 66 := ⟨_, Tryz.func66, by kernel_rfl, by kernel_rfl⟩
theorem qxt : Known Tryz.prog 67 := ⟨_, Tryz.func67, by kernel_rfl, by kernel_rfl⟩
theorem qxu : Known Tryz.prog 68 := ⟨_, Tryz.func68, by kernel_rfl, by kernel_rfl⟩
theorem qxv : Known Tryz.prog 70 := ⟨_, Tryz.func70, by kernel_rfl, by kernel_rfl⟩
theorem qe0 : Known Tryz.prog 71 := ⟨_, Tryz.func71, by kernel_rfl, by kernel_rfl⟩
theorem qxw : Known Tryz.prog 72 := ⟨_, Tryz.func72, by kernel_rfl, by kernel_rfl⟩
theorem qxx : Known Tryz.prog 73 := ⟨_, Tryz.func73, by kernel_rfl, by kernel_rfl⟩
theorem qxy : Known Tryz.prog 74 := ⟨_, Tryz.func74, by kernel_rfl, by kernel_rfl⟩
theorem qxz : Known Tryz.prog 75 := ⟨_, Tryz.func75, by kernel_rfl, by kernel_rfl⟩
theorem qx0 : Known Tryz.prog 76 := ⟨_, Tryz.func76, by kernel_rfl, by kernel_rfl⟩
theorem qx1 : Known Tryz.prog 77 := ⟨_, Tryz.func77, by kernel_rfl, by kernel_rfl⟩
theorem qx2 : Known Tryz.prog 78 := ⟨_, Tryz.func78, by kernel_rfl, by kernel_rfl⟩
theorem qx3 : Known Tryz.prog 79 := ⟨_, Tryz.func79, by kernel_rfl, by kernel_rfl⟩
theorem qx4 : Known Tryz.prog 80 := ⟨_, Tryz.func80, by kernel_rfl, by kernel_rfl⟩
theorem qx5 : Known Tryz.prog 81 := ⟨_, Tryz.func81, by kernel_rfl, by kernel_rfl⟩
theorem qx6 : Known Tryz.prog 82 := ⟨_, Tryz.func82, by kernel_rfl, by kernel_rfl⟩
theorem qsb : Known Tryz.prog 83 := ⟨_, Tryz.func83, by kernel_rfl, by kernel_rfl⟩
theorem quv : Known Tryz.prog 84 := ⟨_, Tryz.func84, by kernel_rfl, by kernel_rfl⟩
theorem qmz : Known Tryz.prog 85 := ⟨_, Tryz.func85, by kernel_rfl, by kernel_rfl⟩
theorem qx7 : Known Tryz.prog 86 := ⟨_, Tryz.func86, by kernel_rfl, by kernel_rfl⟩
theorem qpp : Known Tryz.prog 87 := ⟨_, Tryz.func87, by kernel_rfl, by kernel_rfl⟩
theorem qx8 : Known Tryz.prog 102 := ⟨_, Tryz.func102, by kernel_rfl, by kernel_rfl⟩
theorem qx9 : Known Tryz.prog 103 := ⟨_, Tryz.func103, by kernel_rfl, by kernel_rfl⟩
theorem qya : Known Tryz.prog 104 := ⟨_, Tryz.func104, by kernel_rfl, by kernel_rfl⟩
theorem qyb : Known Tryz.prog 105 := ⟨_, Tryz.func105, by kernel_rfl, by kernel_rfl⟩
theorem qyc : Known Tryz.prog 113 := ⟨_, Tryz.func113, by kernel_rfl, by kernel_rfl⟩
theorem qyd : Known Tryz.prog 114 := ⟨_, Tryz.func114, by kernel_rfl, by kernel_rfl⟩
theorem qye : Known Tryz.prog 115 := ⟨_, Tryz.func115, by kernel_rfl, by kernel_rfl⟩
theorem qyf : Known Tryz.prog 116 := ⟨_, Tryz.func116, by kernel_rfl, by kernel_rfl⟩
theorem qyg : Known Tryz.prog 117 := ⟨_, Tryz.func117, by kernel_rfl, by kernel_rfl⟩
theorem qyh : Known Tryz.prog 118 := ⟨_, Tryz.func118, by kernel_rfl, by kernel_rfl⟩
theorem qyi : Known Tryz.prog 119 := ⟨_, Tryz.func119, by kernel_rfl, by kernel_rfl⟩
theorem qyj : Known Tryz.prog 120 := ⟨_, Tryz.func120, by kernel_rfl, by kernel_rfl⟩
theorem quw : Known Tryz.prog 122 := ⟨_, Tryz.func122, by kernel_rfl, by kernel_rfl⟩
theorem qyk : Known Tryz.prog 123 := ⟨_, Tryz.func123, by kernel_rfl, by kernel_rfl⟩
theorem qyl : Known Tryz.prog 125 := ⟨_, Tryz.func125, by kernel_rfl, by kernel_rfl⟩
theorem K69 : Known Tryz.prog 35 := ⟨_, Tryz.func35, by kernel_rfl, by kernel_rfl⟩
theorem K83 : Known Tryz.prog 18 := ⟨_, Tryz.func18, by kernel_rfl, by kernel_rfl⟩
theorem K88 : Known Tryz.prog 121 := ⟨_, Tryz.func121, by kernel_rfl, by kernel_rfl⟩
theorem K89 : Known Tryz.prog 13 := ⟨_, Tryz.func13, by kernel_rfl, by kernel_rfl⟩
theorem K90 : Known Tryz.prog 15 := ⟨_, Tryz.func15, by kernel_rfl, by kernel_rfl⟩
theorem K91 : Known Tryz.prog 30 := ⟨_, Tryz.func30, by kernel_rfl, by kernel_rfl⟩
theorem qis : appK Tryz.prog 31 = some (32, 18, 168) := by kernel_rfl
theorem qym : appK Tryz.prog 33 = some (9, 1, 16) := by kernel_rfl
theorem qe1 : appK Tryz.prog 34 = some (3, 1, 8) := by kernel_rfl
theorem qux : appK Tryz.prog 98 = some (4, 1, 1) := by kernel_rfl
theorem qfa : fieldK Tryz.prog 23 0 = some (0, 1, false) := by kernel_rfl
theorem qfb : fieldK Tryz.prog 23 1 = some (1, 1, false) := by kernel_rfl
theorem qm0 : fieldK Tryz.prog 23 2 = some (2, 1, false) := by kernel_rfl
theorem vw : fieldK Tryz.prog 25 0 = some (0, 1, false) := by kernel_rfl
theorem qit : fieldK Tryz.prog 25 1 = some (1, 1, false) := by kernel_rfl
theorem qf1 : fieldK Tryz.prog 25 10 = some (12, 1, false) := by kernel_rfl
theorem qf2 : fieldK Tryz.prog 25 2 = some (2, 1, false) := by kernel_rfl
theorem qiu : fieldK Tryz.prog 25 3 = some (3, 1, false) := by kernel_rfl
theorem qiv : fieldK Tryz.prog 25 4 = some (4, 1, false) := by kernel_rfl
theorem qcf : fieldK Tryz.prog 25 5 = some (5, 1, false) := by kernel_rfl
theorem qd7 : fieldK Tryz.prog 25 6 = some (6, 3, true) := by kernel_rfl
theorem qiw : fieldK Tryz.prog 25 7 = some (9, 1, false) := by kernel_rfl
theorem qd8 : fieldK Tryz.prog 25 8 = some (10, 1, false) := by kernel_rfl
theorem qix : fieldK Tryz.prog 25 9 = some (11, 1, false) := by kernel_rfl
theorem qf3 : fieldK Tryz.prog 27 0 = some (0, 13, true) := by kernel_rfl
theorem qpq : fieldK Tryz.prog 27 3 = some (15, 1, false) := by kernel_rfl
theorem qpr : fieldK Tryz.prog 27 5 = some (17, 1, false) := by kernel_rfl
theorem js : fieldK Tryz.prog 32 0 = some (0, 13, true) := by kernel_rfl
theorem qps : fieldK Tryz.prog 32 1 = some (13, 1, false) := by kernel_rfl
theorem qpt : fieldK Tryz.prog 32 2 = some (14, 1, false) := by kernel_rfl
theorem qjs : fieldK Tryz.prog 32 3 = some (15, 1, false) := by kernel_rfl
theorem qpu : fieldK Tryz.prog 32 4 = some (16, 1, false) := by kernel_rfl
theorem qjt : fieldK Tryz.prog 32 5 = some (17, 1, false) := by kernel_rfl
theorem xv : fieldK Tryz.prog 41 0 = some (0, 1, false) := by kernel_rfl
theorem qju : fieldK Tryz.prog 41 1 = some (1, 1, false) := by kernel_rfl
theorem qf4 : fieldK Tryz.prog 41 2 = some (2, 1, false) := by kernel_rfl
theorem qjv : fieldK Tryz.prog 41 3 = some (3, 1, false) := by kernel_rfl
theorem qbm : fieldK Tryz.prog 60 0 = some (0, 4, true) := by kernel_rfl
theorem qar : fieldK Tryz.prog 60 1 = some (4, 1, false) := by kernel_rfl
theorem qjw : fieldK Tryz.prog 60 2 = some (5, 1, false) := by kernel_rfl
theorem qbn : fieldK Tryz.prog 64 0 = some (0, 1, false) := by kernel_rfl
theorem qpv : fieldK Tryz.prog 64 1 = some (1, 1, false) := by kernel_rfl
theorem qjx : fieldK Tryz.prog 66 0 = some (0, 1, false) := by kernel_rfl
theorem qas : fieldK Tryz.prog 66 1 = some (1, 1, false) := by kernel_rfl
theorem qdm : fieldK Tryz.prog 66 2 = some (2, 1, false) := by kernel_rfl
theorem qf5 : fieldK Tryz.prog 70 0 = some (0, 1, false) := by kernel_rfl
theorem qf6 : fieldK Tryz.prog 70 1 = some (1, 1, false) := by kernel_rfl
theorem qf7 : fieldK Tryz.prog 70 2 = some (2, 1, false) := by kernel_rfl
theorem qjy : fieldK Tryz.prog 77 0 = some (0, 1, false) := by kernel_rfl
theorem qdn : fieldK Tryz.prog 77 1 = some (1, 1, false) := by kernel_rfl
theorem pl46 : placesK Tryz.prog 23 = some [(0, 1), (1, 1), (2, 1)] := by kernel_rfl
theorem qyn : placesK Tryz.prog 25 = some [(0, 1), (1, 1), (2, 1), (3, 1), (4, 1), (5, 1), (6, 3), (9, 1), (10, 1), (11, 1), (12, 1)] := by kernel_rfl
theorem quy : placesK Tryz.prog 32 = some [(0, 13), (13, 1), (14, 1), (15, 1), (16, 1), (17, 1)] := by kernel_rfl
theorem quz : placesK Tryz.prog 41 = some [(0, 1), (1, 1), (2, 1), (3, 1)] := by kernel_rfl
theorem qu0 : placesK Tryz.prog 60 = some [(0, 4), (4, 1), (5, 1)] := by kernel_rfl
theorem qm1 : placesK Tryz.prog 64 = some [(0, 1), (1, 1)] := by kernel_rfl
theorem qjz : placesK Tryz.prog 66 = some [(0, 1), (1, 1), (2, 1)] := by kernel_rfl
theorem qj0 : placesK Tryz.prog 70 = some [(0, 1), (1, 1), (2, 1)] := by kernel_rfl
theorem qa3 : placesK Tryz.prog 77 = some [(0, 1), (1, 1)] := by kernel_rfl
theorem ty46 : tyK Tryz.prog 23 = some (3, true) := by kernel_rfl
theorem qm2 : tyK Tryz.prog 25 = some (13, true) := by kernel_rfl
theorem qm3 : tyK Tryz.prog 27 = some (18, true) := by kernel_rfl
theorem ty3 : tyK Tryz.prog 3 = some (1, false) := by kernel_rfl
theorem w6 : tyK Tryz.prog 31 = some (1, false) := by kernel_rfl
theorem jf : tyK Tryz.prog 32 = some (18, true) := by kernel_rfl
theorem ty82 : tyK Tryz.prog 34 = some (1, false) := by kernel_rfl
theorem ty37 : tyK Tryz.prog 35 = some (1, false) := by kernel_rfl
theorem qcu : tyK Tryz.prog 39 = some (1, false) := by kernel_rfl
theorem ty4 : tyK Tryz.prog 4 = some (1, false) := by kernel_rfl
theorem wz : tyK Tryz.prog 41 = some (4, true) := by kernel_rfl
theorem qm4 : tyK Tryz.prog 60 = some (6, true) := by kernel_rfl
theorem j6 : tyK Tryz.prog 64 = some (2, true) := by kernel_rfl
theorem wc : tyK Tryz.prog 66 = some (3, true) := by kernel_rfl
theorem qm5 : tyK Tryz.prog 67 = some (1, false) := by kernel_rfl
theorem qm6 : tyK Tryz.prog 68 = some (1, false) := by kernel_rfl
theorem wd : tyK Tryz.prog 70 = some (3, true) := by kernel_rfl
theorem qm7 : tyK Tryz.prog 75 = some (1, false) := by kernel_rfl
theorem qa4 : tyK Tryz.prog 77 = some (2, true) := by kernel_rfl
theorem ty9 : tyK Tryz.prog 9 = some (1, false) := by kernel_rfl
theorem z10 : zeroK Tryz.prog 10 = some [.string ByteArray.empty] := by kernel_rfl
theorem z11 : zeroK Tryz.prog 11 = some [.string ByteArray.empty] := by kernel_rfl
theorem qyo : zeroK Tryz.prog 118 = some [.slice none 0 0, .slice none 0 0] := by kernel_rfl
theorem z2 : zeroK Tryz.prog 2 = some [.int .i64 0] := by kernel_rfl
theorem z46 : zeroK Tryz.prog 23 = some [.int .i64 0, .int .i64 0, .int .i64 0] := by kernel_rfl
theorem z116 : zeroK Tryz.prog 25 = some [.string ByteArray.empty, .string ByteArray.empty, .string ByteArray.empty, .string ByteArray.empty, .string ByteArray.empty, .string ByteArray.empty, .int .i64 0, .int .i64 0, .int .i64 0, .int .i64 0, .int .i64 0, .int .i64 0, .int .i64 0] := by kernel_rfl
theorem z3 : zeroK Tryz.prog 3 = some [.int .i64 0] := by kernel_rfl
theorem qd9 : zeroK Tryz.prog 32 = some [.string ByteArray.empty, .string ByteArray.empty, .string ByteArray.empty, .string ByteArray.empty, .string ByteArray.empty, .string ByteArray.empty, .int .i64 0, .int .i64 0, .int .i64 0, .int .i64 0, .int .i64 0, .int .i64 0, .int .i64 0, .bool false, .bool false, .bool false, .bool false, .int .i64 0] := by kernel_rfl
theorem z37 : zeroK Tryz.prog 35 = some [.int .i64 0] := by kernel_rfl
theorem z4 : zeroK Tryz.prog 4 = some [.bool false] := by kernel_rfl
theorem qu1 : zeroK Tryz.prog 41 = some [.slice none 0 0, .int .i64 0, .int .i64 0, .int .i64 0] := by kernel_rfl
theorem z5 : zeroK Tryz.prog 5 = some [.int .u8 0] := by kernel_rfl
theorem z6 : zeroK Tryz.prog 6 = some [.int .u8 0] := by kernel_rfl
theorem qu2 : zeroK Tryz.prog 60 = some [.slice none 0 0, .int .i64 0, .int .i64 0, .int .i64 0, .slice none 0 0, .slice none 0 0] := by kernel_rfl
theorem qcg : zeroK Tryz.prog 64 = some [.string ByteArray.empty, .bool false] := by kernel_rfl
theorem qf8 : zeroK Tryz.prog 66 = some [.string ByteArray.empty, .string ByteArray.empty, .int .i64 0] := by kernel_rfl
theorem z7 : zeroK Tryz.prog 7 = some [.int .i64 0, .int .i64 0, .bool false, .int .u8 0] := by kernel_rfl
theorem qiy : zeroK Tryz.prog 70 = some [.string ByteArray.empty, .slice none 0 0, .slice none 0 0] := by kernel_rfl
theorem qa8 : zeroK Tryz.prog 77 = some [.string ByteArray.empty, .nilFunc] := by kernel_rfl
theorem z8 : zeroK Tryz.prog 8 = some [.int .i64 0, .int .i64 0, .bool false, .int .u8 0] := by kernel_rfl
theorem z9 : zeroK Tryz.prog 9 = some [.string ByteArray.empty] := by kernel_rfl
theorem qsc : flatK Tryz.prog 60 25 = some [.str, .str, .str, .str, .str, .str, .int .i64, .int .i64, .int .i64, .int .i64, .int .i64, .int .i64, .int .i64] ∧ structB Tryz.prog 25 = true ∧ Tryz.prog.eqGuardType Tryz.prog.depth 25 = false := ⟨by kernel_rfl, by kernel_rfl, by kernel_rfl⟩
theorem qpw : flatK Tryz.prog 60 32 = some [.str, .str, .str, .str, .str, .str, .int .i64, .int .i64, .int .i64, .int .i64, .int .i64, .int .i64, .int .i64, .bool, .bool, .bool, .bool, .int .i64] ∧ structB Tryz.prog 32 = true ∧ Tryz.prog.eqGuardType Tryz.prog.depth 32 = false := ⟨by kernel_rfl, by kernel_rfl, by kernel_rfl⟩
theorem mk82 : mkK Tryz.prog 34 = some (3, 1, 8, [.int .i64 0]) := by kernel_rfl
theorem qm8 : (Tryz.prog.info? 77).bind (·.zero) = some (.agg #[.string ByteArray.empty, .nilFunc]) := by kernel_rfl
end Go.Sim
