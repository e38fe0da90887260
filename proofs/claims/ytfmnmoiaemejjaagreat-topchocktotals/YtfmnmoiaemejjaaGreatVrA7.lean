/-
  What is proved: lemmas and contracts of functions on the way to the law topChockTotals (part 7).
-/
import Derived.Test.YtfmnmoiaemejjaaGreatVrA6
import Derived.Test.YtfmnmoiaemejjaaGreatVrA3
import Derived.DeepKeys4
import Derived.RangeFuncBound
set_option linter.unusedSectionVars false
set_option linter.unusedSimpArgs false
set_option linter.unusedVariables false
set_option linter.unnecessarySimpa false
set_option linter.deprecated false
set_option maxRecDepth 10000
namespace Go.Sim
open Go.Proofs
def qaa  : List Int → Nat → Int
 | [], k2 => 0
 | y3 :: t4, k2 => (bif decide (y3 ≠ 0) then y3 else qaa  t4 (k2 + 1))
def vo (a0 : List Int) : Int :=
 qaa a0 0
theorem qj0 {g : GL} (a0 : List Int)    : Con (EG g) 40 [G.sl 1 (List.map cInt a0)] (G.int (vo a0)) := by
 generalize hR : vo a0 = R;unfold vo at hR;refine qm Tryz.func40 U U fun w0 M0 => ?_;refine zp (f := cInt) (l := a0) 0 U fun hla0 => ?_;refine qb<|qa [.p]<|sa U U<|qc<|qb<|qb<|qa [.p, .p, .p]<|sm U U<|su (qy (f := cInt) (l := a0) U Tryz.underlying170 U) U<|sm U U<|qc<|qq<|za (γ := Nat × (List Int)) (fun g => ([(5, .g (G.sl 1 (List.map cInt a0))), (6, .g (G.int (List.length a0 : Int))), (7, .g (G.int ((g.1 : Nat) : Int)))], [])) (fun g => a0.drop g.1 = g.2 ∧ qaa  g.2 g.1 = R) (fun g => List.length g.2) ⟨U, (0, a0), ⟨U, U, U, O⟩, O, U, ⟨U, (by exact hR)⟩, O⟩ ?_
 ·rintro ⟨k2, t4⟩ ⟨hd, hR⟩;replace hd : a0.drop k2 = t4 := hd;replace hR : qaa  t4 k2 = R := hR;refine qb<|qa [.p]<|su (ze U U U) U<|qc ?_;refine zp (f := cInt) (l := a0) 5 U fun hlz1 => ?_;refine qb ?_;refine ql _ U (fun h1 => ?_) (fun h1 => ?_)
  ·replace h1 : (decide (((k2 : Nat) : Int) < (List.length a0 : Int))) = true := h1;obtain ⟨y3, t4, rfl, hx1, hd⟩ := zq hd (decT h1);replace h1 := decT h1;rw [qaa] at hR;(try dsimp only at hR);refine qn<|qb<|qq<|qb<|qa [.p, .p, .p]<|su (z4 (f := cInt) (l := a0) (a := y3) U Tryz.underlying170 ty37 U U (Int.natCast_nonneg _) hx1) U<|su (qg U ty37 U) U<|sa U U<|qc<|qb<|qa [.p, .p]<|sm U U<|su (zx U U U) U<|qc ?_;refine ql _ U (fun h3 => ?_) (fun h3 => ?_)
   ·replace hR := zm hR h3;refine qb<|qa [.p, .p]<|sm U U<|sa U U<|qc<|qo ?_;subst hR;exact zb U (rv_g U)
   ·replace h3 : (decide (y3 ≠ 0)) = false := h3;replace hR := zn hR h3;(try simp only [bB] at h3);refine qn<|qa [.p, .p]<|su (zl U U U iE) U<|sm U U<|qc ?_;exact ⟨U, (k2 + 1, t4), ⟨U, U, U, O⟩, O, U, ⟨hd, hR⟩, by simp⟩
  ·replace h1 : (decide (((k2 : Nat) : Int) < (List.length a0 : Int))) = false := h1;obtain rfl := zu hd (decF h1);rw [qaa] at hR;refine zr<|qb<|qa [.p]<|sa U U<|qc<|qo ?_;subst hR;exact zb U (rv_g U)
def xa (a0 : Bool) (a1 : Int) : Int :=
 (bif a0 then a1 else 0)
theorem qj1 {g : GL} (a0 : Bool) (a1 : Int)    : Con (EG g) 98 [G.bool a0, G.int a1] (G.int (xa a0 a1)) := by
 generalize hR : xa a0 a1 = R;unfold xa at hR;refine qm Tryz.func98 U U fun w0 M0 => ?_;refine qb<|qa [.p]<|sa U U<|qc<|qb<|qb<|qa [.p]<|sm U U<|qc ?_;refine ql _ U (fun h1 => ?_) (fun h1 => ?_)
 ·replace hR := zm hR h1;refine qb<|qa [.p, .p]<|sm U U<|sa U U<|qc<|qo ?_;subst hR;exact zb U (rv_g U)
 ·replace hR := zn hR h1;refine qn<|qb<|qa [.p]<|sa U U<|qc<|qo ?_;subst hR;exact zb U (rv_g U)
def xl (a0 : Int) (a1 : Int) (a2 : Int) : Int :=
 (xa ((decide (a0 < a1)) || (decide (a2 < a0))) 3)
theorem qiz {g : GL} (a0 : Int) (a1 : Int) (a2 : Int)    : Con (EG g) 61 [G.int a0, G.int a1, G.int a2] (G.int (xl a0 a1 a2)) := by
 generalize hR : xl a0 a1 a2 = R;unfold xl at hR;refine qm Tryz.func61 U U fun w0 M0 => ?_;refine qb<|qa [.p]<|sa rfl rfl<|qc<|qb<|qa [.p, .p, .p, .p, .p, .p, .p, .p, .p, .p]<|sm rfl rfl<|sm rfl rfl<|su (ze rfl rfl rfl) rfl<|sm rfl rfl<|sg rfl rfl (fun h => qk rfl rfl) rfl<|sg rfl rfl (fun h => qk rfl rfl) rfl<|sg rfl rfl (fun h => z6 rfl (gd h rfl) (gd h rfl)) rfl<|su (jm rfl rfl rfl rfl) rfl<|su (qf rfl qj2 rfl (qj1 ((decide (a0 < a1)) || (decide (a2 < a0))) 3) (qe rfl (qe rfl qj))) rfl<|sa rfl rfl<|qc<|qo ?_;subst hR;exact zb U (rv_g U)
def qof (a0 : ByteArray) : Int :=
 (xa ((!decide (a0 = (⟨#[65]⟩))) && (!decide (a0 = (⟨#[68]⟩)))) 13)
theorem q7d {g : GL} (a0 : ByteArray)    : Con (EG g) 95 [G.str a0] (G.int (qof a0)) := by
 generalize hR : qof a0 = R;unfold qof at hR;refine qm Tryz.func95 U U fun w0 M0 => ?_;refine qb<|qa [.p]<|sa U U<|qc<|qb<|qa [.p, .p, .p, .p, .p, .p, .p, .p]<|sm U U<|su (qc5 U U U) U<|sm U U<|sg U U (fun h => qk U U) U<|sg U U (fun h => qc5 U (gd h U) U) U<|su (zy U U U U) U<|su (qf U qj2 U (qj1 ((!decide (a0 = (⟨#[65]⟩))) && (!decide (a0 = (⟨#[68]⟩)))) 13) (qe U (qe U qj))) U<|sa U U<|qc<|qo ?_;subst hR;exact zb U (rv_g U)
def qlj (a0 : ByteArray) : Int :=
 (xa ((!decide (a0 = (⟨#[]⟩))) && (!(s147 a0))) 8)
theorem q4q {g : GL} (a0 : ByteArray)    : Con (EG g) 96 [G.str a0] (G.int (qlj a0)) := by
 generalize hR : qlj a0 = R;unfold qlj at hR;refine qm Tryz.func96 U U fun w0 M0 => ?_;refine qb<|qa [.p]<|sa U U<|qc<|qb<|qa [.p, .p, .p, .p, .p, .p, .p, .p, .p]<|sm U U<|su (qc5 U U U) U<|sm U U<|sg U U (fun h => qk U U) U<|sg U U (fun h => qf U K147 U (c147 a0) (qe (gd h U) qj)) U<|sg U U (fun h => jn U (gd h U)) U<|su (zy U U U U) U<|su (qf U qj2 U (qj1 ((!decide (a0 = (⟨#[]⟩))) && (!(s147 a0))) 8) (qe U (qe U qj))) U<|sa U U<|qc<|qo ?_;subst hR;exact zb U (rv_g U)
def qog (a0 : Int) (a1 : Int) (a2 : Int) : Int :=
 (vo [(xl a0 0 999), (xl a1 0 9), (xl a2 0 99)])
theorem q7e {g : GL} (a0 : Int) (a1 : Int) (a2 : Int)    : Con (EG g) 97 [G.int a0, G.int a1, G.int a2] (G.int (qog a0 a1 a2)) := by
 generalize hR : qog a0 a1 a2 = R;unfold qog at hR;refine qm Tryz.func97 U U fun w0 M0 => ?_;refine qb<|qa [.p]<|sa U U<|qc<|qb<|qa [.p, .p, .p, .p, .p, .p, .p, .p, .p]<|sm U U<|su (qf U qi0 U (qiz a0 0 999) (qe U (qe U (qe U qj)))) U<|sm U U<|su (qf U qi0 U (qiz a1 0 9) (qe U (qe U (qe U qj)))) U<|sm U U<|su (qf U qi0 U (qiz a2 0 99) (qe U (qe U (qe U qj)))) U ?_;refine su (qt U Tryz.underlying170 ty37 z37 U (qv U (qv U (qv U jh))) U (by simp []) (by decide)) U ?_;refine su (qf U qj3 U (qj0 [(xl a0 0 999), (xl a1 0 9), (xl a2 0 99)]) (qe U qj)) U<|sa U U<|qc<|qo ?_;subst hR;exact zb U (rv_g U)
def qbz (a0 : S115) : Int :=
 (vo [(xa (!(s147 a0.Name)) 8), (qof a0.Kind), (qlj a0.Terminal), (s102 a0.Period), (xl a0.Minute 0 1439), (qog a0.Seats a0.Size a0.Noise)])
theorem q4r {g : GL} (a0 : S115)    : Con (EG g) 126 [G.agg (S115.c a0)] (G.int (qbz a0)) := by
 generalize hR : qbz a0 = R;unfold qbz at hR;refine qm Tryz.func126 U U fun w0 M0 => ?_;refine qb<|qa [.p, .p]<|su (zg U U) U<|sa U U<|qc<|qb<|zt [.p, .p, .p, .p, .p, .p, .p, .p, .p, .p, .p, .p, .p, .p, .p, .p, .p, .p, .p, .p, .p, .p, .p, .p, .p, .p, .p] (by kernel_rfl)<|su (qd U vh U) U<|su (qg U ty9 U) U<|su (qf U K147 U (c147 a0.Name) (qe U qj)) U<|su (jn U U) U<|su (qf U qj2 U (qj1 (!(s147 a0.Name)) 8) (qe U (qe U qj))) U<|su (qd U qe2 U) U<|su (qg U ty9 U) U<|su (qf U q7f U (q7d a0.Kind) (qe U qj)) U<|su (qd U qgn U) U<|su (qg U ty9 U) U<|su (qf U q4s U (q4q a0.Terminal) (qe U qj)) U<|su (qd U wd U) U<|su (qp U ty46 U U U) U<|su (qf U K102 U (c102 a0.Period) (qe U qj)) U<|su (qd U qi1 U) U<|su (qg U ty3 U) U<|su (qf U qi0 U (qiz a0.Minute 0 1439) (qe U (qe U (qe U qj)))) U<|su (qd U qlk U) U<|su (qg U ty3 U) U<|su (qd U qll U) U<|su (qg U ty3 U) U<|su (qd U qh0 U) U<|su (qg U ty3 U) U<|su (qf U q7g U (q7e a0.Seats a0.Size a0.Noise) (qe U (qe U (qe U qj)))) U ?_;refine su (qt U Tryz.underlying170 ty37 z37 U (qv U (qv U (qv U (qv U (qv U (qv U jh)))))) U (by simp []) (by decide)) U ?_;refine su (qf U qj3 U (qj0 [(xa (!(s147 a0.Name)) 8), (qof a0.Kind), (qlj a0.Terminal), (s102 a0.Period), (xl a0.Minute 0 1439), (qog a0.Seats a0.Size a0.Noise)]) (qe U qj)) U<|sa U U<|qc<|qo ?_;subst hR;exact zb U (rv_g U)
def qh1 (a0 : Int) (a1 : Int) (a2 : Int) : Bool :=
 (decide (a0 < a1)) || (decide (a2 < a0))
theorem qxo {g : GL} (a0 : Int) (a1 : Int) (a2 : Int)    : Con (EG g) 131 [G.int a0, G.int a1, G.int a2] (G.bool (qh1 a0 a1 a2)) := by
 generalize hR : qh1 a0 a1 a2 = R;unfold qh1 at hR;refine qm Tryz.func131 U U fun w0 M0 => ?_;refine qb<|qa [.p]<|sa U U<|qc<|qb<|qa [.p, .p, .p, .p, .p, .p, .p, .p, .p]<|sm U U<|sm U U<|su (ze U U U) U<|sm U U<|sg U U (fun h => qk U U) U<|sg U U (fun h => qk U U) U<|sg U U (fun h => z6 U (gd h U) (gd h U)) U<|su (jm U U U U) U<|sa U U<|qc<|qo ?_;subst hR;exact zb U (rv_g U)
def qrg (a0 : ByteArray) : Bool :=
 (decide (a0 = (⟨#[]⟩))) || (s91 a0)
theorem za7 {g : GL} (a0 : ByteArray)    : Con (EG g) 130 [G.str a0] (G.bool (qrg a0)) := by
 generalize hR : qrg a0 = R;unfold qrg at hR;refine qm Tryz.func130 U U fun w0 M0 => ?_;refine qb<|qa [.p]<|sa U U<|qc<|qb<|qa [.p, .p, .p, .p, .p, .p, .p]<|sm U U<|su (ky U U U) U<|sm U U<|sg U U (fun h => qk U U) U<|sg U U (fun h => qf U K91 U (c91 a0) (qe (gd h U) qj)) U<|su (jm U U U U) U<|sa U U<|qc<|qo ?_;subst hR;exact zb U (rv_g U)
section
variable {E : Env} {w0 : World} {M0 : Nat → Prop}
variable {K V : Type} [DecidableEq K] {kf : K → Value} {vf : V → G} {d : TypeDesc} [MKey kf d] {o : Oper} {mem : Mem} {ev : Operand → TV} {t kt et : TypeId} {x ix : Operand} {m : List (K × V)} {k : K} {z : V}
theorem qlm {w : World} {M : Nat → Prop} (ht : E.P.underlying t = some (.map kt et)) (hk : E.P.underlying kt = some d) {zv : Value} (hz : (E.P.info? et).bind (·.zero) = some zv) (hz0 : ∀ w M, (vf z).p w M zv)
  {v : Value} (hv : (G.mpf (m.map fun p => (kf p.1, vf p.2))).p w M v) (ok : Bool) : ∃ u, (vf (vj m k z)).p w M u ∧ (Instr.lookup t v (kf k) ok).run E.P w = .ok (if ok then .tuple #[u, .bool (mhas m k)] else u) w := by
 obtain ⟨b, en, cl, rfl, _, h2, h3, _⟩ := hv
 have hzr : (zeroValue et).run E.P w = .ok zv w := by
  cases hi : E.P.info? et with
  | none => rw [hi] at hz; cases hz
  | some i =>
   rw [hi] at hz;have hz : i.zero = some zv := hz
   simp [zeroValue, typeInfo, hi, hz]
 have hck := MapKept.run_checkKey (w := w) hk (MKey.isKey (kf := kf) k) en.isEmpty 9999
 rcases q0k (kf := kf) (vf := vf) (k := k) 0 h3 with ⟨g1, g2, _⟩ | ⟨j, e, b, g1, g2, g3, g4, g5, _⟩
 ·refine ⟨zv, by simp only [vj, g1]; exact hz0 _ _, ?_⟩
  simp [Instr.lookup, run_underlying ht, MapKept.run_getObj_map h2, hck, MapKept.run_findKey hk g2, hzr, mhas, g1]
 ·refine ⟨e.val, by simp only [vj, g1]; exact g5, ?_⟩
  simp [Instr.lookup, run_underlying ht, MapKept.run_getObj_map h2, hck, MapKept.run_findKey hk g2, mhas, g1]
theorem qrt {zv : Value} (ho : o.op = .lookup t x ix false) (ht : E.P.underlying t = some (.map kt et)) (hk : E.P.underlying kt = some d) (hz : (E.P.info? et).bind (·.zero) = some zv) (hz0 : ∀ w M, (vf z).p w M zv)
  (hx : ev x = .g (G.mpf (m.map fun p => (kf p.1, vf p.2)))) (hi : ev ix = .g (.lit (kf k))) (mem : Mem) : Eff E o mem ev (.g (vf (vj m k z))) := by
 intro w0 M0 ρ w e hm he;have h1 := he x (by rw [ho]; simp [Op.operands]);rw [hx] at h1;have h2 := he ix (by rw [ho]; simp [Op.operands]);rw [hi] at h2;have h2' : e ix = kf k := h2;obtain ⟨u, g1, g2⟩ := qlm (E := E) (z := z) (k := k) ht hk hz hz0 h1 false
 have : (execOp e o).run E.P w = .ok (.value u) w := by simp only [execOp, ho, h2', Sem.run_bind, g2, Result.andThen_ok, Sem.run_pure]; rfl
 rw [this];exact ⟨Grow.refl w, g1⟩
theorem qqf {zv : Value} (ho : o.op = .lookup t x ix true) (ht : E.P.underlying t = some (.map kt et)) (hk : E.P.underlying kt = some d) (hz : (E.P.info? et).bind (·.zero) = some zv) (hz0 : ∀ w M, (vf z).p w M zv)
  (hx : ev x = .g (G.mpf (m.map fun p => (kf p.1, vf p.2)))) (hi : ev ix = .g (.lit (kf k))) (mem : Mem) : Eff E o mem ev (.g (.tup [vf (vj m k z), G.bool (mhas m k)])) := by
 intro w0 M0 ρ w e hm he;have h1 := he x (by rw [ho]; simp [Op.operands]);rw [hx] at h1;have h2 := he ix (by rw [ho]; simp [Op.operands]);rw [hi] at h2;have h2' : e ix = kf k := h2;obtain ⟨u, g1, g2⟩ := qlm (E := E) (z := z) (k := k) ht hk hz hz0 h1 true
 have : (execOp e o).run E.P w = .ok (.value (.tuple #[u, .bool (mhas m k)])) w := by simp only [execOp, ho, h2', Sem.run_bind, g2, Result.andThen_ok, Sem.run_pure]; rfl
 rw [this];exact ⟨Grow.refl w, [u, .bool (mhas m k)], U, g1, U, O⟩
end
theorem q7h : zf Tryz.prog 169 := ⟨_, Tryz.func169, by kernel_rfl, by kernel_rfl⟩
theorem q0r : vz Tryz.prog 184 = some [.nilFunc] := by kernel_rfl
theorem qxp : qap Tryz.prog 184 = some [(0, 1)] := by kernel_rfl
def kfn : Option (Option ByteArray) → G
 | none => G.lit .nilFunc
 | some (some s) => G.fn (.func 170) [] [G.ref [G.str s]]
 | some none => G.lit (.func (.func 171) #[] #[])
def kv (v : Option (Option ByteArray)) : G := G.agg [kfn v]
def kindL : List (ByteArray × Option (Option ByteArray)) := [(⟨#[65]⟩, some (some ⟨#[65]⟩)), (⟨#[68]⟩, some (some ⟨#[68]⟩)), (⟨#[84]⟩, some none)]
theorem q7i {g : GL} (s : ByteArray) : Con (EG g) 169 [G.str s] (G.fn (.func 170) [] [G.ref [G.str s]]) := by
 refine qm Tryz.func169 U U fun w0 M0 => ?_;refine qb<|qa [.p, .p]<|st U U (zg U U) U<|st U U (je U U) U<|qc<|qb<|qa [.p, .p]<|st U U (w6 U U U) U<|st U U (je U U) U<|qc<|qo ?_;exact zb U (rv_g U)
theorem q7j {g : GL} : Con (EG g) 120 [] (G.mpf (kindL.map fun p => (Value.string p.1, kv p.2))) := by
 refine qm Tryz.func120 U U fun w0 M0 => ?_;refine qb<|qa [.p]<|st U U (je U U) U<|qc<|qb<|qa [.p]<|st U U (je U U) U<|qc<|qb<|qa [.w, .p, .p, .p, .w, .p, .p, .p, .w, .p, .w, .p, .p]<|st_w U U (qgi 2 U U) U<|st U U (qk U U) U<|st U U (xf (args := [G.str ⟨#[65]⟩]) U qd9 q7h U (q7i ⟨#[65]⟩) U) U<|st U U (jc U q0r U qxp (z5 U kx) U) U<|z7 U U (qd2 (kf := Value.string) (vf := kv) (m := []) (k := ⟨#[65]⟩) (v := some (some ⟨#[65]⟩)) (ins := true) U Tryz.underlying186 Tryz.underlying9 U U U U)<|st U U (qk U U) U<|st U U (xf (args := [G.str ⟨#[68]⟩]) U qd9 q7h U (q7i ⟨#[68]⟩) U) U<|st U U (jc U q0r U qxp (z5 U kx) U) U<|z7 U U (qd2 (kf := Value.string) (vf := kv) (k := ⟨#[68]⟩) (v := some (some ⟨#[68]⟩)) (ins := true) U Tryz.underlying186 Tryz.underlying9 U U U U)<|st U U (jc U q0r U qxp (z5 U kx) U) U<|z7 U U (qd2 (kf := Value.string) (vf := kv) (k := ⟨#[84]⟩) (v := some none) (ins := true) U Tryz.underlying186 Tryz.underlying9 U U U U)<|st U U (qc7 U U) U<|st U U (qgl U U) U<|qc<|qo ?_;exact zb U (q7b U U)
theorem q2m : (Tryz.prog.info? 184).bind (·.zero) = some (.agg #[.nilFunc]) := by kernel_rfl
theorem kz0 : ∀ w M, (kv none).p w M (.agg #[.nilFunc]) := fun _ _ => ⟨[.nilFunc], rfl, ⟨rfl, rfl⟩, trivial⟩
theorem za8 : zf Tryz.prog 170 := ⟨_, Tryz.func170, by kernel_rfl, by kernel_rfl⟩
theorem za9 : zf Tryz.prog 171 := ⟨_, Tryz.func171, by kernel_rfl, by kernel_rfl⟩
theorem zba {g : GL} (m s : ByteArray) : Con (EG g) 170 [G.str m, G.ref [G.str s]] (G.bool (decide (m = s))) := by
 refine qm Tryz.func170 U U fun w0 M0 => ?_;refine qb<|qa [.p]<|st U U (je U U) U<|qc<|qb<|qa [.p, .p, .p, .p]<|st U U (qk U U) U<|st U U (qg U ty9 U) U<|st U U (ky U U U) U<|st U U (je U U) U<|qc<|qo ?_;exact zb U (rv_g U)
theorem zbb {g : GL} (m : ByteArray) : Con (EG g) 171 [G.str m] (G.bool true) := by
 refine qm Tryz.func171 U U fun w0 M0 => ?_;refine qb<|qa [.p]<|st U U (je U U) U<|qc<|qb<|qa [.p]<|st U U (je U U) U<|qc<|qo ?_;exact zb U (rv_g U)
theorem q7k : jb Tryz.prog 184 0 = some (0, 1, false) := by kernel_rfl
theorem q7l : tyK Tryz.prog 184 = some (1, true) := by kernel_rfl
def kcnt (k m : ByteArray) : Bool := match vj kindL k none with
 | some (some s) => decide (m = s)
 | some none => true
 | none => false
theorem qxq {g : GL} {o : Oper} {ev : Operand → TV} {x : Operand} {ops : Array Operand} {ts : Array TypeId} {k m : ByteArray} (ho : o.op = .call ⟨.value x, ops, ts⟩) (hk : (vj kindL k none).isSome = true)
  (hev : ev x = .g (kfn (vj kindL k none))) (ha : ops.toList.map ev = [TV.g (G.str m)]) (mem : Mem) : Eff (EG g) o mem ev (.g (G.bool (kcnt k m))) := by
 unfold kcnt;generalize vj kindL k none = v at *
 match v, hk, hev with
 | some (some s), _, hev => exact xf (args := [G.str m]) ho qgm za8 hev (zba m s) ha mem
 | some none, _, hev => exact xf (args := [G.str m]) ho qd9 za9 hev (zbb m) ha mem
theorem qqg {k : ByteArray} : (vj kindL k none).isSome = true ↔ k = (⟨#[65]⟩ : ByteArray) ∨ k = (⟨#[68]⟩ : ByteArray) ∨ k = (⟨#[84]⟩ : ByteArray) := by
 unfold vj kindL;simp only [mget]
 by_cases h1 : (⟨#[65]⟩ : ByteArray) = k
 ·subst h1; simp
 ·by_cases h2 : (⟨#[68]⟩ : ByteArray) = k
  ·subst h2; simp [h1]
  ·by_cases h3 : (⟨#[84]⟩ : ByteArray) = k
   ·subst h3; simp [h1, h2]
   ·have e1 : ¬ k = (⟨#[65]⟩ : ByteArray) := fun e => h1 e.symm;have e2 : ¬ k = (⟨#[68]⟩ : ByteArray) := fun e => h2 e.symm;have e3 : ¬ k = (⟨#[84]⟩ : ByteArray) := fun e => h3 e.symm
    simp [h1, h2, h3, e1, e2, e3]
theorem q4t {k m : ByteArray} (hk : (vj kindL k none).isSome = true) : kcnt k m = (decide (k = (⟨#[84]⟩ : ByteArray)) || decide (k = m)) := by
 rcases qqg.1 hk with rfl | rfl | rfl
 ·show decide (m = (⟨#[65]⟩ : ByteArray)) = _;rw [decide_eq_false (show ¬ (⟨#[65]⟩ : ByteArray) = (⟨#[84]⟩ : ByteArray) by decide), Bool.false_or];exact decide_eq_decide.2 ⟨fun h => h.symm, fun h => h.symm⟩
 ·show decide (m = (⟨#[68]⟩ : ByteArray)) = _;rw [decide_eq_false (show ¬ (⟨#[68]⟩ : ByteArray) = (⟨#[84]⟩ : ByteArray) by decide), Bool.false_or];exact decide_eq_decide.2 ⟨fun h => h.symm, fun h => h.symm⟩
 ·rfl
def qb0 (a0 : S2062) (a1 : ByteArray) (a2 : ByteArray) : Bool :=
 (kcnt a0.Kind a1) && ((decide (a0.Terminal = (⟨#[]⟩))) || (decide (a0.Terminal = a2)))
theorem q4u {g : GL} (a0 : S2062) (a1 : ByteArray) (a2 : ByteArray)  (hk : (vj kindL a0.Kind none).isSome = true)  : Con (EG g) 102 [G.agg (S2062.c a0), G.str a1, G.str a2] (G.bool (qb0 a0 a1 a2)) := by
 generalize hR : qb0 a0 a1 a2 = R;unfold qb0 at hR;refine qm Tryz.func102 U U fun w0 M0 => ?_;refine qb<|qa [.p, .p]<|su (zg U U) U<|sa U U<|qc<|qb<|zt [.p, .p, .p, .p, .p, .p, .p, .p, .p, .p, .p, .p, .p, .p, .p, .p, .p, .p, .p] (by kernel_rfl)<|su (qf U q7m U (q7j) qj) U<|su (qd U qta U) U<|su (qg U ty9 U) U<|su (qrt (kf := Value.string) (vf := kv) (m := kindL) (k := a0.Kind) (z := none) U Tryz.underlying186 Tryz.underlying9 q2m kz0 U U) U<|su (qvx U q7k U U) U<|sm U U<|su (qxq U hk U U) U<|sm U U<|sg U U (fun h => qd U qoh U) U<|sg U U (fun h => qg U ty9 (gd h U)) U<|sg U U (fun h => ky U (gd h U) U) U<|sg U U (fun h => qk U (gd h U)) U<|st_g U U U (jr _ _ _) (fun h => qd U qoh U) U<|st_g U U U (jr _ _ _) (fun h => qg U ty9 (gd h U)) U<|st_g U U U (jr _ _ _) (fun h => qk U U) U<|st_g U U U (jr _ _ _) (fun h => ky U (gd h U) (gd h U)) U<|sg U U (fun h => jm U (gd h U) U (gd2 h U)) U<|su (zy U U U U) U<|sa U U<|qc<|qo ?_;subst hR;exact zb U (rv_g U)
def qd5 (a0 : S1079) : Int :=
 (vo [(xl a0.Moment 0 143999999), (qof a0.Kind), (qlj a0.Terminal), (qog a0.Seats a0.Size a0.Noise), (xa (!(s147 a0.Name)) 8)])
theorem q7n {g : GL} (a0 : S1079)    : Con (EG g) 42 [G.agg (S1079.c a0)] (G.int (qd5 a0)) := by
 generalize hR : qd5 a0 = R;unfold qd5 at hR;refine qm Tryz.func42 U U fun w0 M0 => ?_;refine qb<|qa [.p, .p]<|su (zg U U) U<|sa U U<|qc<|qb<|zt [.p, .p, .p, .p, .p, .p, .p, .p, .p, .p, .p, .p, .p, .p, .p, .p, .p, .p, .p, .p, .p, .p, .p, .p] (by kernel_rfl)<|su (qd U qaz U) U<|su (qg U ty3 U) U<|su (qf U qi0 U (qiz a0.Moment 0 143999999) (qe U (qe U (qe U qj)))) U<|su (qd U qea U) U<|su (qg U ty9 U) U<|su (qf U q7f U (q7d a0.Kind) (qe U qj)) U<|su (qd U qh2 U) U<|su (qg U ty9 U) U<|su (qf U q4s U (q4q a0.Terminal) (qe U qj)) U<|su (qd U q0s U) U<|su (qg U ty3 U) U<|su (qd U q0t U) U<|su (qg U ty3 U) U<|su (qd U q0u U) U<|su (qg U ty3 U) U<|su (qf U q7g U (q7e a0.Seats a0.Size a0.Noise) (qe U (qe U (qe U qj)))) U<|su (qd U qoi U) U<|su (qg U ty9 U) U<|su (qf U K147 U (c147 a0.Name) (qe U qj)) U<|su (jn U U) U<|su (qf U qj2 U (qj1 (!(s147 a0.Name)) 8) (qe U (qe U qj))) U ?_;refine su (qt U Tryz.underlying170 ty37 z37 U (qv U (qv U (qv U (qv U (qv U jh))))) U (by simp []) (by decide)) U ?_;refine su (qf U qj3 U (qj0 [(xl a0.Moment 0 143999999), (qof a0.Kind), (qlj a0.Terminal), (qog a0.Seats a0.Size a0.Noise), (xa (!(s147 a0.Name)) 8)]) (qe U qj)) U<|sa U U<|qc<|qo ?_;subst hR;exact zb U (rv_g U)
def qab (a0 : List S1079) : List S1079 → Nat → Option Int
 | [], k2 => some 0
 | y3 :: t4, k2 => qz (bif decide (0 < ((k2 : Nat) : Int)) then ixO a0 (max 0 (IntKind.i64.wrap (((k2 : Nat) : Int) - 1))) else some default) fun y5 => (bif decide ((vo [(qd5 y3), (xa ((decide (0 < ((k2 : Nat) : Int))) && (decide (y3.Moment < y5.Moment))) 11)]) ≠ 0) then some (vo [(qd5 y3), (xa ((decide (0 < ((k2 : Nat) : Int))) && (decide (y3.Moment < y5.Moment))) 11)]) else qab a0 t4 (k2 + 1))
def qal (a0 : List S1079) : Option Int :=
 (bif decide (30000 < (List.length a0 : Int)) then some 5 else qab a0 a0 0)
theorem q0v {g : GL} (a0 : List S1079) {R : Int}   (hR : qal a0 = some R) : Con (EG g) 60 [G.sl 7 (List.map S1079.c a0)] (G.int R) := by
 unfold qal at hR;refine qm Tryz.func60 U U fun w0 M0 => ?_;refine zp (f := S1079.c) (l := a0) 0 U fun hla0 => ?_;refine qb<|qa [.p]<|sa U U<|qc<|qb<|qb<|qa [.p, .p, .p]<|sm U U<|su (qy (f := S1079.c) (l := a0) U Tryz.underlying48 U) U<|su (z6 U U U) U<|qc ?_;refine ql _ U (fun h1 => ?_) (fun h1 => ?_)
 ·replace hR := zm hR h1;refine qb<|qa [.p]<|sa U U<|qc<|qo ?_;obtain rfl := Option.some.inj hR;exact zb U (rv_g U)
 ·replace h1 : (decide (30000 < (List.length a0 : Int))) = false := h1;replace hR := zn hR h1;(try simp only [bB] at h1);refine qn<|qb<|qb<|qa [.p, .p, .p]<|sm U U<|su (qy (f := S1079.c) (l := a0) U Tryz.underlying48 U) U<|sm U U<|qc<|qq<|za (γ := Nat × (List S1079)) (fun g => ([(0, .g (G.sl 7 (List.map S1079.c a0))), (9, .g (G.sl 7 (List.map S1079.c a0))), (10, .g (G.int (List.length a0 : Int))), (11, .g (G.int ((g.1 : Nat) : Int)))], [])) (fun g => a0.drop g.1 = g.2 ∧ qab a0 g.2 g.1 = some R) (fun g => List.length g.2) ⟨U, (0, a0), jA, O, U, ⟨U, (by exact hR)⟩, O⟩ ?_
  ·rintro ⟨k2, t4⟩ ⟨hd, hR⟩;replace hd : a0.drop k2 = t4 := hd;replace hR : qab a0 t4 k2 = some R := hR;refine qb<|qa [.p]<|su (ze U U U) U<|qc ?_;refine zp (f := S1079.c) (l := a0) 0 U fun hlz1 => ?_;refine qb ?_;refine ql _ U (fun h2 => ?_) (fun h2 => ?_)
   ·replace h2 : (decide (((k2 : Nat) : Int) < (List.length a0 : Int))) = true := h2;obtain ⟨y3, t4, rfl, hx1, hd⟩ := zq hd (decT h2);replace h2 := decT h2;rw [qab] at hR;(try dsimp only at hR);refine qn<|qb<|qq<|qb<|qa [.p, .p, .p, .w, .p, .w]<|sm U U<|su (z4 (f := S1079.c) (l := a0) (a := y3) U Tryz.underlying48 jd U U (Int.natCast_nonneg _) hx1) U<|su (qp U jd U U U) U<|sw (zh 4 U qny U U) U<|sa U U<|z7 U U (qw (tv := .g (G.agg (S1079.c y3))) U jd U U U U U)<|qc<|qb ?_;obtain ⟨y5, by5, hR⟩ := qi hR;refine zt [.r, .p, .p, .p, .p, .p, .r, .p, .p, .p, .p, .p, .p, .p, .p, .p, .p, .p, .p, .p] (by kernel_rfl)<|sr (zj U jd U U U U) U<|su (qf U q7o U (q7n y3) (qe U qj)) U<|sm U U<|su (z6 U U U) U<|sm U U<|sg U U (fun h => zo U qaz U) U<|qk0 U U U (ji _ _) (fun h => zz U ty3 (gd h U) U U) U<|sg U U (fun h => qk U U) U<|sg U U (fun h => qk U U) U<|sg U U (fun h => ku U (gd h U) U) U<|sg U U (fun h => qix U U (gd h U)) U<|sg U U (fun h => z4 (f := S1079.c) (l := a0) (a := y5) U Tryz.underlying48 jd (gd h U) (gd h U) (jl (xm by5 h)) (zk (xm by5 h))) U<|sg U U (fun h => qd U qaz (gd h U)) U<|sg U U (fun h => qg U ty3 (gd h U)) U<|sg U U (fun h => ze U (gd h U) (gd h U)) U<|su (zy U U U U) U<|su (qf U qj2 U (qj1 ((decide (0 < ((k2 : Nat) : Int))) && (decide (y3.Moment < y5.Moment))) 11) (qe U (qe U qj))) U ?_;refine su (qt U Tryz.underlying170 ty37 z37 U (qv U (qv U jh)) U (by simp []) (by decide)) U ?_;refine su (qf U qj3 U (qj0 [(qd5 y3), (xa ((decide (0 < ((k2 : Nat) : Int))) && (decide (y3.Moment < y5.Moment))) 11)]) (qe U qj)) U<|sa U U<|qc<|qb<|qa [.p, .p]<|sm U U<|su (zx U U U) U<|qc ?_;refine ql _ U (fun h4 => ?_) (fun h4 => ?_)
    ·replace hR := zm hR h4;refine qb<|qa [.p, .p]<|sm U U<|sa U U<|qc<|qo ?_;obtain rfl := Option.some.inj hR;exact zb U (rv_g U)
    ·replace h4 : (decide ((vo [(qd5 y3), (xa ((decide (0 < ((k2 : Nat) : Int))) && (decide (y3.Moment < y5.Moment))) 11)]) ≠ 0)) = false := h4;replace hR := zn hR h4;(try simp only [bB] at h4);refine qn<|qa [.p, .p]<|su (zl U U U iE) U<|sm U U<|qc ?_;exact ⟨U, (k2 + 1, t4), jA, O, U, ⟨hd, hR⟩, by simp⟩
   ·replace h2 : (decide (((k2 : Nat) : Int) < (List.length a0 : Int))) = false := h2;obtain rfl := zu hd (decF h2);rw [qab] at hR;refine zr<|qb<|qa [.p]<|sa U U<|qc<|qo ?_;obtain rfl := Option.some.inj hR;exact zb U (rv_g U)
def qbu (a0 : S2062) : Int :=
 (vo [(xa (!(s147 a0.Name)) 8), (xa (!(mhas kindL a0.Kind)) 13), (qlj a0.Terminal), (xl a0.Length 1 1440), (xl a0.Step 1 1440), (xl a0.fFrom 0 1439), (xl a0.fTo 0 1439), (xa (decide (a0.fTo < a0.fFrom)) 11), (s102 a0.Period), (xl a0.Most 0 999999999)])
theorem q7p {g : GL} (a0 : S2062)    : Con (EG g) 59 [G.agg (S2062.c a0)] (G.int (qbu a0)) := by
 generalize hR : qbu a0 = R;unfold qbu at hR;refine qm Tryz.func59 U U fun w0 M0 => ?_;refine qb<|qa [.p, .p]<|su (zg U U) U<|sa U U<|qc<|qb<|zt [.p, .p, .p, .p, .p, .p, .p, .w, .w, .p] (by kernel_rfl)<|su (qf U q7m U (q7j) qj) U<|su (qd U qta U) U<|su (qg U ty9 U) U<|su (qqf (kf := Value.string) (vf := kv) (m := kindL) (k := a0.Kind) (z := none) U Tryz.underlying186 Tryz.underlying9 q2m kz0 U U) U<|sm U U<|su (qu U U U) U<|su (qu U U U) U<|sw (zh 3 U q0r U U) U<|z7 U U (qw (tv := .g (G.agg [kfn (vj kindL a0.Kind none)])) U q7l U U U U U)<|sa U U<|qc<|qb<|zt [.p, .p, .p, .p, .p, .p, .p, .p, .p, .p, .p, .p, .p, .p, .p, .p, .p, .p, .p, .p, .p, .p, .p, .p, .p, .p, .p, .p, .p, .p, .p, .p, .p, .p, .p, .p, .p, .p] (by kernel_rfl)<|su (qd U qoj U) U<|su (qg U ty9 U) U<|su (qf U K147 U (c147 a0.Name) (qe U qj)) U<|su (jn U U) U<|su (qf U qj2 U (qj1 (!(s147 a0.Name)) 8) (qe U (qe U qj))) U<|sm U U<|su (jn U U) U<|su (qf U qj2 U (qj1 (!(mhas kindL a0.Kind)) 13) (qe U (qe U qj))) U<|su (qd U qoh U) U<|su (qg U ty9 U) U<|su (qf U q4s U (q4q a0.Terminal) (qe U qj)) U<|su (qd U qfn U) U<|su (qg U ty3 U) U<|su (qf U qi0 U (qiz a0.Length 1 1440) (qe U (qe U (qe U qj)))) U<|su (qd U qh3 U) U<|su (qg U ty3 U) U<|su (qf U qi0 U (qiz a0.Step 1 1440) (qe U (qe U (qe U qj)))) U<|su (qd U qok U) U<|su (qg U ty3 U) U<|su (qf U qi0 U (qiz a0.fFrom 0 1439) (qe U (qe U (qe U qj)))) U<|su (qd U qol U) U<|su (qg U ty3 U) U<|su (qf U qi0 U (qiz a0.fTo 0 1439) (qe U (qe U (qe U qj)))) U<|su (qd U qok U) U<|su (qg U ty3 U) U<|su (qd U qol U) U<|su (qg U ty3 U) U<|su (z6 U U U) U<|su (qf U qj2 U (qj1 (decide (a0.fTo < a0.fFrom)) 11) (qe U (qe U qj))) U<|su (qd U qh4 U) U<|su (qp U ty46 U U U) U<|su (qf U K102 U (c102 a0.Period) (qe U qj)) U<|su (qd U qom U) U<|su (qg U ty3 U) U<|su (qf U qi0 U (qiz a0.Most 0 999999999) (qe U (qe U (qe U qj)))) U ?_;refine su (qt U Tryz.underlying170 ty37 z37 U (qv U (qv U (qv U (qv U (qv U (qv U (qv U (qv U (qv U (qv U jh)))))))))) U (by simp []) (by decide)) U ?_;refine su (qf U qj3 U (qj0 [(xa (!(s147 a0.Name)) 8), (xa (!(mhas kindL a0.Kind)) 13), (qlj a0.Terminal), (xl a0.Length 1 1440), (xl a0.Step 1 1440), (xl a0.fFrom 0 1439), (xl a0.fTo 0 1439), (xa (decide (a0.fTo < a0.fFrom)) 11), (s102 a0.Period), (xl a0.Most 0 999999999)]) (qe U qj)) U<|sa U U<|qc<|qo ?_;subst hR;exact zb U (rv_g U)
def qqh (a0 : Int) (a1 : Int) : Bool :=
 ((s202 a0) && (!(s202 a1))) || (decide (a0 < a1))
theorem zbc {g : GL} (a0 : Int) (a1 : Int)    : Con (EG g) 191 [G.int a0, G.int a1] (G.bool (qqh a0 a1)) := by
 generalize hR : qqh a0 a1 = R;unfold qqh at hR;refine qm Tryz.func191 U U fun w0 M0 => ?_;refine qb<|qa [.p]<|sa U U<|qc<|qb<|qa [.p, .p, .p, .p, .p, .p, .p, .p, .p, .p, .p, .p, .p]<|sm U U<|su (qf U K202 U (c202 a0) (qe U qj)) U<|sm U U<|sg U U (fun h => qk U U) U<|sg U U (fun h => qf U K202 U (c202 a1) (qe (gd h U) qj)) U<|sg U U (fun h => jn U (gd h U)) U<|su (zy U U U U) U<|sm U U<|sg U U (fun h => qk U U) U<|sg U U (fun h => qk U U) U<|sg U U (fun h => ze U (gd h U) (gd h U)) U<|su (jm U U U U) U<|sa U U<|qc<|qo ?_;subst hR;exact zb U (rv_g U)
def qxr (a0 : Int) : Bool :=
 decide (a0 ≠ a0)
theorem q7q {g : GL} (a0 : Int)    : Con (EG g) 192 [G.int a0] (G.bool (qxr a0)) := by
 generalize hR : qxr a0 = R;unfold qxr at hR;refine qm Tryz.func192 U U fun w0 M0 => ?_;refine qb<|qa [.p]<|sa U U<|qc<|qb<|qa [.p, .p, .p, .p]<|sm U U<|sm U U<|su (zx U U U) U<|sa U U<|qc<|qo ?_;subst hR;exact zb U (rv_g U)
def qu2 (a0 : S45) (a1 : Int) : Bool :=
 ((decide (a0.fFrom ≤ a1)) && (decide (a1 ≤ a0.fTo))) && (s187 a0.Days (s188 a1))
theorem zbd {g : GL} (a0 : S45) (a1 : Int)  (hf : 0 ≤ a0.fFrom) (ht : a0.fTo ≤ 1000000)  : Con (EG g) 172 [G.agg (S45.c a0), G.int a1] (G.bool (qu2 a0 a1)) := by
 generalize hR : qu2 a0 a1 = R;unfold qu2 at hR;refine qm Tryz.func172 U U fun w0 M0 => ?_;refine qb<|qa [.p, .p]<|su (zg U U) U<|sa U U<|qc<|qb<|zt [.p, .p, .p, .p, .p, .p, .p, .p, .p, .p, .p, .p, .p, .p, .p, .p, .p, .p] (by kernel_rfl)<|sm U U<|su (qd U qdg U) U<|su (qg U ty3 U) U<|su (w4 U U U) U<|sm U U<|sg U U (fun h => qk U U) U<|sg U U (fun h => qd U qb1 U) U<|sg U U (fun h => qg U ty3 (gd h U)) U<|sg U U (fun h => vl U (gd h U) (gd h U)) U<|su (zy U U U U) U<|sm U U<|sg U U (fun h => qd U qtb U) U<|sg U U (fun h => qg U ty3 (gd h U)) U<|sg U U (fun h => qk U U) U<|sg U U (fun h => qf U K188 U (c188 a1) (qe (gd h U) qj)) U<|sg U U (fun h => qf U K187 U (c187 a0.Days (s188 a1) (zbe hf ht h)) (qe (gd h U) (qe (gd h U) qj))) U<|su (zy U U U U) U<|sa U U<|qc<|qo ?_;subst hR;exact zb U (rv_g U)
def qqi (a0 : S45) (a1 : Int) : Bool × Int :=
 (bif decide ((s152 [(s102 a0), (s153 a1)]) ≠ 0) then (false, (s152 [(s102 a0), (s153 a1)])) else ((qu2 a0 a1), 0))
theorem zbf {g : GL} (a0 : S45) (a1 : Int)    : Con (EG g) 121 [G.agg (S45.c a0), G.int a1] (G.tup [G.bool ((qqi a0 a1).1), G.int ((qqi a0 a1).2)]) := by
 generalize hR : qqi a0 a1 = R;unfold qqi at hR;refine qm Tryz.func121 U U fun w0 M0 => ?_;refine qb<|qa [.p, .p, .p]<|su (zg U U) U<|sa U U<|sa U U<|qc<|qb<|qb<|qa [.p, .p, .p, .p, .p, .p, .p]<|su (qp U ty46 U U U) U<|su (qf U K102 U (c102 a0) (qe U qj)) U<|sm U U<|su (qf U K153 U (c153 a1) (qe U qj)) U ?_;refine su (qt U Tryz.underlying170 ty37 z37 U (qv U (qv U jh)) U (by simp []) (by decide)) U ?_;refine su (qf U K152 U (c152 [(s102 a0), (s153 a1)]) (qe U qj)) U<|sa U U<|qc<|qb<|qa [.p, .p]<|sm U U<|su (zx U U U) U<|qc ?_;refine ql _ U (fun h1 => ?_) (fun h1 => ?_)
 ·replace h1 : (decide ((s152 [(s102 a0), (s153 a1)]) ≠ 0)) = true := h1;replace hR := zm hR h1;(try simp only [bB] at h1);refine qb<|qa [.p, .p, .p]<|sm U U<|sa U U<|sa U U<|qc<|qo ?_;subst hR;exact resN U ⟨rv_g U, rv_g U, O⟩ (by simp)
 ·replace h1 : (decide ((s152 [(s102 a0), (s153 a1)]) ≠ 0)) = false := h1;replace hR := zn hR h1;(try simp only [bB] at h1);obtain ⟨hp, _⟩ := q2n _ _ (Decidable.not_not.1 h1);have hq := vk a0 hp;refine qn<|qb<|qa [.p, .p, .p, .p, .p]<|su (qp rfl ty46 rfl rfl rfl) rfl<|sm rfl rfl<|su (qf rfl zbg rfl (zbd a0 a1 (by first | assumption | omega | (simp [qh]; done) | (simp [qh]; omega)) (by first | assumption | omega | (simp [qh]; done) | (simp [qh]; omega))) (qe rfl (qe rfl qj))) rfl<|sa rfl rfl<|sa rfl rfl<|qc<|qo ?_;subst hR;exact resN U ⟨rv_g U, rv_g U, O⟩ (by simp)
def qi2 (a0 : S2062) (a1 : Int) : Bool :=
 (decide ((qqi a0.Period a1).2 = 0)) && ((qqi a0.Period a1).1)
theorem q7r {g : GL} (a0 : S2062) (a1 : Int)    : Con (EG g) 62 [G.agg (S2062.c a0), G.int a1] (G.bool (qi2 a0 a1)) := by
 generalize hR : qi2 a0 a1 = R;unfold qi2 at hR;refine qm Tryz.func62 U U fun w0 M0 => ?_;refine qb<|qa [.p, .p]<|su (zg U U) U<|sa U U<|qc<|qb<|qa [.p, .p, .p, .p, .p, .p, .p, .p, .p]<|su (qd U qh4 U) U<|su (qp U ty46 U U U) U<|sm U U<|su (qf U zbh U (zbf a0.Period a1) (qe U (qe U qj))) U<|sm U U<|su (qu U U U) U<|su (qu U U U) U<|sa U U<|sa U U<|qc<|qb<|qa [.p, .p, .p, .p, .p, .p]<|sm U U<|su (jq U U U) U<|sm U U<|sg U U (fun h => qk U U) U<|su (zy U U U U) U<|sa U U<|qc<|qo ?_;subst hR;exact zb U (rv_g U)
def qcp (a0 : List Int) (a1 : Int) : Nat → Int → Int → Option (Int × Bool)
 | 0, _, _ => none
 | k3 + 1, x1, x2 => (bif decide (x1 < x2) then qz (ixO a0 ((x1 + x2) / 2)) fun y4 => (bif (qqh y4 a1) then qcp a0 a1 k3 (((x1 + x2) / 2) + 1) x2 else qcp a0 a1 k3 x1 ((x1 + x2) / 2)) else qz (bif decide (x1 < (List.length a0 : Int)) then ixO a0 x1 else some default) fun y5 => qz (bif (decide (x1 < (List.length a0 : Int))) && (!(decide (y5 = a1))) then ixO a0 x1 else some default) fun y6 => some (x1, (decide (x1 < (List.length a0 : Int))) && ((decide (y5 = a1)) || ((qxr y6) && (qxr a1)))))
def q0w (a0 : List Int) (a1 : Int) : Option (Int × Bool) :=
 qcp a0 a1 ((((List.length a0 : Int) - 0).toNat) + 1) 0 (List.length a0 : Int)
theorem zbi {g : GL} (a0 : List Int) (a1 : Int) {R : Int × Bool}  (hb : a0.length ≤ 1000) (hR : q0w a0 a1 = some R) : Con (EG g) 173 [G.sl 1 (List.map cInt a0), G.int a1] (G.tup [G.int R.1, G.bool R.2]) := by
 unfold q0w at hR;refine qm Tryz.func173 U U fun w0 M0 => ?_;refine zp (f := cInt) (l := a0) 0 U fun hla0 => ?_;refine qb<|qa [.p, .p]<|sa U U<|sa U U<|qc<|qb<|qa [.p, .p, .p]<|sm U U<|su (qy (f := cInt) (l := a0) U Tryz.underlying132 U) U<|sa U U<|qc<|qb<|qa [.p, .p, .p]<|sm U U<|sa U U<|sa U U<|qc<|qb<|qq<|za (γ := Nat × Int × Int) (fun g => ([(0, .g (G.sl 1 (List.map cInt a0))), (1, .g (G.int a1)), (6, .g (G.int (List.length a0 : Int))), (7, .g (G.int g.2.1)), (8, .g (G.int g.2.2))], [])) (fun g => (g.2.2 - g.2.1).toNat < g.1 ∧ 0 ≤ g.2.1 ∧ g.2.1 ≤ g.2.2 ∧ g.2.2 ≤ (List.length a0 : Int) ∧ qcp a0 a1 g.1 g.2.1 g.2.2 = some R) (fun g => g.1) ⟨U, ((((List.length a0 : Int) - 0).toNat) + 1, 0, (List.length a0 : Int)), jA, O, U, ⟨Nat.lt_succ_self _, iD, iD, iD, (by exact hR)⟩, O⟩ ?_
 ·rintro ⟨k3, x1, x2⟩ ⟨hk1, iv1_0, iv1_1, iv1_2, hR⟩;replace hk1 : (x2 - x1).toNat < k3 := hk1;replace hR : qcp a0 a1 k3 x1 x2 = some R := hR;replace iv1_0 : 0 ≤ x1 := iv1_0;replace iv1_1 : x1 ≤ x2 := iv1_1;replace iv1_2 : x2 ≤ (List.length a0 : Int) := iv1_2;obtain ⟨k3, rfl⟩ : ∃ m, k3 = m + 1 := ⟨k3 - 1, by omega⟩;rw [qcp] at hR;(try dsimp only at hR);refine qb<|qb<|qa [.p, .p, .p]<|sm U U<|sm U U<|su (ze U U U) U<|qc ?_;refine ql _ U (fun h1 => ?_) (fun h1 => ?_)
  ·replace h1 : (decide (x1 < x2)) = true := h1;replace hR := zm hR h1;(try simp only [bB] at h1);refine qn<|qq<|qb<|qa [.p, .p, .p, .p, .p, .p, .p]<|sm U U<|sm U U<|su (zl U U U iF) U<|su (qe3 U Tryz.underlying3 Tryz.underlying233 U (by (try dsimp only); omega) (by (try dsimp only); omega)) U<|su (qh5 U U U (by (try dsimp only); omega)) U<|su (qe4 U Tryz.underlying233 Tryz.underlying3 U iF) U<|sa U U<|qc<|qb ?_;obtain ⟨y4, by4, hR⟩ := qi hR;refine qa [.p, .p, .p, .p, .p, .p]<|sm U U<|sm U U<|su (z4 (f := cInt) (l := a0) (a := y4) U Tryz.underlying132 ty3 U U (jl by4) (zk by4)) U<|su (qg U ty3 U) U<|sm U U<|su (qf U zbj U (zbc y4 a1) (qe U (qe U qj))) U<|qc ?_;refine ql _ U (fun h2 => ?_) (fun h2 => ?_)
   ·replace h2 : ((qqh y4 a1)) = true := h2;replace hR := zm hR h2;(try simp only [bB] at h2);refine qa [.p, .p, .p]<|sm U U<|su (zl U U U iF) U<|sa U U<|qc ?_;exact ⟨U, (k3, ((x1 + x2) / 2) + 1, x2), jA, O, U, ⟨iB, iB, iB, iB, hR⟩, by simp⟩
   ·replace h2 : ((qqh y4 a1)) = false := h2;replace hR := zn hR h2;(try simp only [bB] at h2);refine qa [.p, .p]<|sm U U<|sa U U<|qc ?_;exact ⟨U, (k3, x1, (x1 + x2) / 2), jA, O, U, ⟨iB, iB, iB, iB, hR⟩, by simp⟩
  ·replace h1 : (decide (x1 < x2)) = false := h1;replace hR := zn hR h1;(try simp only [bB] at h1);refine zr<|qb ?_;obtain ⟨y5, by5, hR⟩ := qi hR;obtain ⟨y6, by6, hR⟩ := qi hR;refine qa [.p, .p, .p, .p, .p, .p, .p, .p, .p, .p, .p, .p, .p, .p, .p, .p, .p, .p, .p, .p, .p, .p, .p, .p, .p]<|sm U U<|sm U U<|sm U U<|su (ze U U U) U<|sm U U<|sg U U (fun h => qk U U) U<|sg U U (fun h => qk U U) U<|sg U U (fun h => z4 (f := cInt) (l := a0) (a := y5) U Tryz.underlying132 ty3 (gd h U) (gd h U) (jl (xm by5 h)) (zk (xm by5 h))) U<|sg U U (fun h => qg U ty3 (gd h U)) U<|sg U U (fun h => qk U U) U<|sg U U (fun h => jq U (gd h U) (gd h U)) U<|sg U U (fun h => qk U (gd h U)) U<|st_g U U U (jr _ _ _) (fun h => qk U U) U<|st_g U U U (jr _ _ _) (fun h => qk U U) U<|st_g U U U (jr _ _ _) (fun h => z4 (f := cInt) (l := a0) (a := y6) U Tryz.underlying132 ty3 (gd h U) (gd h U) (jl (q7a by6 h)) (zk (q7a by6 h))) U<|st_g U U U (jr _ _ _) (fun h => qg U ty3 (gd h U)) U<|st_g U U U (jr _ _ _) (fun h => qf U q7s U (q7q y6) (qe (gd h U) qj)) U<|st_g U U U (jr _ _ _) (fun h => qk U (gd h U)) U<|st_g U U U (jr _ _ _) (fun h => qk U U) U<|st_g U U U (jr _ _ _) (fun h => qf U q7s U (q7q a1) (qe (gd h U) qj)) U<|st_g U U U (jr _ _ _) (fun h => zy U (gd h U) U (gd2 h U)) U<|sg U U (fun h => jm U (gd h U) U (gd2 h U)) U<|su (zy U U U U) U<|sa U U<|sa U U<|qc<|qo ?_;obtain rfl := Option.some.inj hR;exact resN U ⟨rv_g U, rv_g U, O⟩ (by simp)
def qu3 (a0 : List Int) (a1 : Int) : Option Int :=
 qz (q0w a0 a1) fun r1 => some r1.1
theorem q7t {g : GL} (a0 : List Int) (a1 : Int) {R : Int}  (hb : a0.length ≤ 1000) (hR : qu3 a0 a1 = some R) : Con (EG g) 123 [G.sl 1 (List.map cInt a0), G.int a1] (G.int R) := by
 unfold qu3 at hR;refine qm Tryz.func123 U U fun w0 M0 => ?_;refine zp (f := cInt) (l := a0) 0 U fun hla0 => ?_;refine qb<|qa [.p]<|sa U U<|qc<|qb ?_;obtain ⟨r1, br1, hR⟩ := qi hR;refine qa [.p, .p, .p, .p, .p, .p, .p, .p]<|sm rfl rfl<|sm rfl rfl<|su (qf rfl zbk rfl (zbi a0 a1 (by first | assumption | omega | (simp [qh]; done) | (simp [qh]; omega)) br1) (qe rfl (qe rfl qj))) rfl<|sm rfl rfl<|su (qu rfl rfl rfl) rfl<|su (qu rfl rfl rfl) rfl<|sa rfl rfl<|sa rfl rfl<|qc<|qb<|qa [.p, .p]<|sm rfl rfl<|sa rfl rfl<|qc<|qo ?_;obtain rfl := Option.some.inj hR;exact zb U (rv_g U)
def q0x (a0 : List Int) (a1 : Int) (a2 : Int) : Option Int :=
 qz (qu3 a0 (IntKind.i64.wrap (a1 + a2))) fun r1 => qz (qu3 a0 a1) fun r2 => some (IntKind.i64.wrap (r1 - r2))
theorem q4v {g : GL} (a0 : List Int) (a1 : Int) (a2 : Int) {R : Int}  (hb : a0.length ≤ 1000) (hR : q0x a0 a1 a2 = some R) : Con (EG g) 65 [G.sl 1 (List.map cInt a0), G.int a1, G.int a2] (G.int R) := by
 unfold q0x at hR;refine qm Tryz.func65 U U fun w0 M0 => ?_;refine zp (f := cInt) (l := a0) 0 U fun hla0 => ?_;refine qb<|qa [.p]<|sa U U<|qc<|qb ?_;obtain ⟨r1, br1, hR⟩ := qi hR;obtain ⟨r2, br2, hR⟩ := qi hR;refine qa [.p, .p, .p, .p, .p, .p, .p, .p, .p, .p]<|sm rfl rfl<|sm rfl rfl<|sm rfl rfl<|su (jo rfl rfl rfl) rfl<|su (qf rfl q7u rfl (q7t a0 (IntKind.i64.wrap (a1 + a2)) (by first | assumption | omega | (simp [qh]; done) | (simp [qh]; omega)) br1) (qe rfl (qe rfl qj))) rfl<|sm rfl rfl<|sm rfl rfl<|su (qf rfl q7u rfl (q7t a0 a1 (by first | assumption | omega | (simp [qh]; done) | (simp [qh]; omega)) br2) (qe rfl (qe rfl qj))) rfl<|su (ku rfl rfl rfl) rfl<|sa rfl rfl<|qc<|qo ?_;obtain rfl := Option.some.inj hR;exact zb U (rv_g U)
def qug (a0 : S2062) (a1 : ByteArray) : Bool :=
 decide (a0.Name = a1)
theorem zbl {g : GL} (a0 : S2062) (a1 : ByteArray)    : Con (EG g) 152 [G.agg (S2062.c a0), G.ref [G.str a1]] (G.bool (qug a0 a1)) := by
 generalize hR : qug a0 a1 = R;unfold qug at hR;refine qm Tryz.func152 U U fun w0 M0 => ?_;refine qb<|qa [.p, .p]<|su (zg U U) U<|sa U U<|qc<|qb<|qa [.p, .p, .p, .p, .p]<|su (qd U qoj U) U<|su (qg U ty9 U) U<|su (qg U ty9 U) U<|su (ky U U U) U<|sa U U<|qc<|qo ?_;subst hR;exact zb U (rv_g U)
def qch (a1 : S2062 → Bool) : List S2062 → Nat → Int
 | [], k2 => (-1)
 | y3 :: t4, k2 => (bif (a1 y3) then ((k2 : Nat) : Int) else qch a1 t4 (k2 + 1))
def qwb (a0 : List S2062) (a1 : S2062 → Bool) : Int :=
 qch a1 a0 0
theorem zbm {g : GL} (a0 : List S2062) (a1 : S2062 → Bool) {ca1 : G} {ia1 : FuncId} {ka1 : List G} (ha1 : FnIs ca1 ia1 ka1) (Ka1 : zf Tryz.prog ia1) (Ha1 : ∀ (x0 : S2062), Con (EG g) ia1 ([G.agg (S2062.c x0)] ++ ka1) (G.bool (a1 x0)))   : Con (EG g) 151 [G.sl 11 (List.map S2062.c a0), ca1] (G.int (qwb a0 a1)) := by
 generalize hR : qwb a0 a1 = R;unfold qwb at hR;refine qm Tryz.func151 U U fun w0 M0 => ?_;refine zp (f := S2062.c) (l := a0) 0 U fun hla0 => ?_;refine qb<|qa [.p]<|sa U U<|qc<|qb<|qb<|qa [.p, .p, .p]<|sm U U<|su (qy (f := S2062.c) (l := a0) U Tryz.underlying22 U) U<|sm U U<|qc<|qq<|za (γ := Nat × (List S2062)) (fun g => ([(0, .g (G.sl 11 (List.map S2062.c a0))), (1, .g (ca1)), (7, .g (G.int (List.length a0 : Int))), (8, .g (G.int ((g.1 : Nat) : Int)))], [])) (fun g => a0.drop g.1 = g.2 ∧ qch a1 g.2 g.1 = R) (fun g => List.length g.2) ⟨U, (0, a0), jA, O, U, ⟨U, (by exact hR)⟩, O⟩ ?_
 ·rintro ⟨k2, t4⟩ ⟨hd, hR⟩;replace hd : a0.drop k2 = t4 := hd;replace hR : qch a1 t4 k2 = R := hR;refine qb<|qa [.p]<|su (ze U U U) U<|qc ?_;refine zp (f := S2062.c) (l := a0) 0 U fun hlz1 => ?_;refine qb ?_;refine ql _ U (fun h1 => ?_) (fun h1 => ?_)
  ·replace h1 : (decide (((k2 : Nat) : Int) < (List.length a0 : Int))) = true := h1;obtain ⟨y3, t4, rfl, hx1, hd⟩ := zq hd (decT h1);replace h1 := decT h1;rw [qch] at hR;(try dsimp only at hR);refine qn<|qb<|qq<|qb<|qa [.p, .p]<|sm U U<|sa U U<|qc<|qb<|qa [.p, .p, .p, .p, .p, .p]<|sm U U<|sm U U<|sm U U<|su (z4 (f := S2062.c) (l := a0) (a := y3) U Tryz.underlying22 kq U U (Int.natCast_nonneg _) hx1) U<|su (qp U kq U U U) U<|su (xf U ha1 Ka1 U (Ha1 y3) (qe U qj)) U<|qc ?_;refine ql _ U (fun h3 => ?_) (fun h3 => ?_)
   ·replace hR := zm hR h3;refine qb<|qa [.p, .p]<|sm U U<|sa U U<|qc<|qo ?_;subst hR;exact zb U (rv_g U)
   ·replace h3 : ((a1 y3)) = false := h3;replace hR := zn hR h3;(try simp only [bB] at h3);refine qn<|qa [.p, .p]<|su (zl U U U iE) U<|sm U U<|qc ?_;exact ⟨U, (k2 + 1, t4), jA, O, U, ⟨hd, hR⟩, by simp⟩
  ·replace h1 : (decide (((k2 : Nat) : Int) < (List.length a0 : Int))) = false := h1;obtain rfl := zu hd (decF h1);rw [qch] at hR;refine zr<|qb<|qa [.p]<|sa U U<|qc<|qo ?_;subst hR;exact zb U (rv_g U)
def qk6 (a0 : List S2062) (a1 : ByteArray) : Int :=
 (qwb a0 (fun x0 => qug x0 a1))
theorem zbn {g : GL} (a0 : List S2062) (a1 : ByteArray)    : Con (EG g) 107 [G.sl 11 (List.map S2062.c a0), G.str a1] (G.int (qk6 a0 a1)) := by
 generalize hR : qk6 a0 a1 = R;unfold qk6 at hR;refine qm Tryz.func107 U U fun w0 M0 => ?_;refine zp (f := S2062.c) (l := a0) 0 U fun hla0 => ?_;refine qb<|qa [.p, .p]<|su (zg U U) U<|sa U U<|qc<|qb<|qa [.p, .p, .p, .p]<|sm U U<|su (w6 U U U) U<|su (qf U zbo U (zbm a0 (fun x0 => qug x0 a1) qgm zbp (fun x0 => zbl x0 a1)) (qe U (qe U qj))) U<|sa U U<|qc<|qo ?_;subst hR;exact zb U (rv_g U)
def qbm (a0 : List S2062) : List S2062 → Nat → Int
 | [], k2 => 0
 | y3 :: t4, k2 => (bif decide ((vo [(qbu y3), (xa (decide (0 ≤ (qk6 (List.take (Int.toNat ((k2 : Nat) : Int)) a0) y3.Name))) 9)]) ≠ 0) then (vo [(qbu y3), (xa (decide (0 ≤ (qk6 (List.take (Int.toNat ((k2 : Nat) : Int)) a0) y3.Name))) 9)]) else qbm a0 t4 (k2 + 1))
def qbv (a0 : List S2062) : Int :=
 (bif decide (32 < (List.length a0 : Int)) then 5 else qbm a0 a0 0)
theorem q7v {g : GL} (a0 : List S2062)    : Con (EG g) 50 [G.sl 11 (List.map S2062.c a0)] (G.int (qbv a0)) := by
 generalize hR : qbv a0 = R;unfold qbv at hR;refine qm Tryz.func50 U U fun w0 M0 => ?_;refine zp (f := S2062.c) (l := a0) 0 U fun hla0 => ?_;refine qb<|qa [.p]<|sa U U<|qc<|qb<|qb<|qa [.p, .p, .p]<|sm U U<|su (qy (f := S2062.c) (l := a0) U Tryz.underlying22 U) U<|su (z6 U U U) U<|qc ?_;refine ql _ U (fun h1 => ?_) (fun h1 => ?_)
 ·replace hR := zm hR h1;refine qb<|qa [.p]<|sa U U<|qc<|qo ?_;subst hR;exact zb U (rv_g U)
 ·replace h1 : (decide (32 < (List.length a0 : Int))) = false := h1;replace hR := zn hR h1;(try simp only [bB] at h1);refine qn<|qb<|qb<|qa [.p, .p, .p]<|sm U U<|su (qy (f := S2062.c) (l := a0) U Tryz.underlying22 U) U<|sm U U<|qc<|qq<|za (γ := Nat × (List S2062)) (fun g => ([(0, .g (G.sl 11 (List.map S2062.c a0))), (9, .g (G.sl 11 (List.map S2062.c a0))), (10, .g (G.int (List.length a0 : Int))), (11, .g (G.int ((g.1 : Nat) : Int)))], [])) (fun g => a0.drop g.1 = g.2 ∧ qbm a0 g.2 g.1 = R) (fun g => List.length g.2) ⟨U, (0, a0), jA, O, U, ⟨U, (by exact hR)⟩, O⟩ ?_
  ·rintro ⟨k2, t4⟩ ⟨hd, hR⟩;replace hd : a0.drop k2 = t4 := hd;replace hR : qbm a0 t4 k2 = R := hR;refine qb<|qa [.p]<|su (ze U U U) U<|qc ?_;refine zp (f := S2062.c) (l := a0) 0 U fun hlz1 => ?_;refine qb ?_;refine ql _ U (fun h2 => ?_) (fun h2 => ?_)
   ·replace h2 : (decide (((k2 : Nat) : Int) < (List.length a0 : Int))) = true := h2;obtain ⟨y3, t4, rfl, hx1, hd⟩ := zq hd (decT h2);replace h2 := decT h2;rw [qbm] at hR;(try dsimp only at hR);refine qn<|qb<|qq<|qb<|qa [.p, .p, .p, .w, .p, .w]<|sm U U<|su (z4 (f := S2062.c) (l := a0) (a := y3) U Tryz.underlying22 kq U U (Int.natCast_nonneg _) hx1) U<|su (qp U kq U U U) U<|sw (zh 4 U qub U U) U<|sa U U<|z7 U U (qw (tv := .g (G.agg (S2062.c y3))) U kq U U U U U)<|qc<|qb<|zt [.r, .p, .p, .p, .p, .p, .r, .p, .p, .p, .p, .p, .p] (by kernel_rfl)<|sr (zj U kq U U U U) U<|su (qf U q7w U (q7p y3) (qe U qj)) U<|sm U U<|sm U U<|su (qeq (f := S2062.c) (l := a0) U Tryz.underlying22 kq U qbi (qbj U (Int.natCast_nonneg _)) (Nat.zero_le _) (qkz hx1)) U<|su (zo U qoj U) U<|sr (zz U ty9 U U U) U<|su (qf U zbq U (zbn (List.take (Int.toNat ((k2 : Nat) : Int)) a0) y3.Name) (qe U (qe U qj))) U<|su (w4 U U U) U<|su (qf U qj2 U (qj1 (decide (0 ≤ (qk6 (List.take (Int.toNat ((k2 : Nat) : Int)) a0) y3.Name))) 9) (qe U (qe U qj))) U ?_;refine su (qt U Tryz.underlying170 ty37 z37 U (qv U (qv U jh)) U (by simp []) (by decide)) U ?_;refine su (qf U qj3 U (qj0 [(qbu y3), (xa (decide (0 ≤ (qk6 (List.take (Int.toNat ((k2 : Nat) : Int)) a0) y3.Name))) 9)]) (qe U qj)) U<|sa U U<|qc<|qb<|qa [.p, .p]<|sm U U<|su (zx U U U) U<|qc ?_;refine ql _ U (fun h4 => ?_) (fun h4 => ?_)
    ·replace hR := zm hR h4;refine qb<|qa [.p, .p]<|sm U U<|sa U U<|qc<|qo ?_;subst hR;exact zb U (rv_g U)
    ·replace h4 : (decide ((vo [(qbu y3), (xa (decide (0 ≤ (qk6 (List.take (Int.toNat ((k2 : Nat) : Int)) a0) y3.Name))) 9)]) ≠ 0)) = false := h4;replace hR := zn hR h4;(try simp only [bB] at h4);refine qn<|qa [.p, .p]<|su (zl U U U iE) U<|sm U U<|qc ?_;exact ⟨U, (k2 + 1, t4), jA, O, U, ⟨hd, hR⟩, by simp⟩
   ·replace h2 : (decide (((k2 : Nat) : Int) < (List.length a0 : Int))) = false := h2;obtain rfl := zu hd (decF h2);rw [qbm] at hR;refine zr<|qb<|qa [.p]<|sa U U<|qc<|qo ?_;subst hR;exact zb U (rv_g U)
open Go.WideMaps (KeyLaw)
structure KOk (P : Program) (kt : TypeId) {K : Type} (kf : K → Value) (ok : K → Prop) : Prop where
 law : KeyLaw P kt
 key : ∀ k, ok k → ∃ l, keyOf P kt (kf k) = some l
 inj : ∀ a b, kf a = kf b → a = b
section
variable {E : Env} {w0 : World} {M0 : Nat → Prop}
section find
variable {P : Program} {kt : TypeId} {K V : Type} [DecidableEq K] {kf : K → Value} {ok : K → Prop} {vf : V → G} {M : Nat → Prop}
theorem qru {k : K} (inj : ∀ a b, kf a = kf b → a = b) {w : World} : ∀ {m : List (K × V)} {l : List MapEntry}, MFits w M (m.map fun p => (kf p.1, vf p.2)) l → (l.map (·.key)).Nodup →
  (mget m k = none ∧ (∀ x ∈ l, x.key ≠ kf k) ∧ ∀ v, mset m k v = m ++ [(k, v)]) ∨
  ∃ j e b, mget m k = some b ∧ l[j]? = some e ∧ e.key = kf k ∧ (vf b).p w M e.val ∧ (∀ v, mset m k v = m.set j (k, v)) ∧ ∀ j' e', l[j']? = some e' → e'.key = kf k → j' = j
 | [], [], _, _ => .inl ⟨rfl, by simp, fun _ => rfl⟩
 | (a, b) :: m, e :: l, h, hn => by
  obtain ⟨⟨h1, h2⟩, h3⟩ := h;rw [List.map_cons, List.nodup_cons] at hn
  by_cases hak : a = k
  ·subst hak;refine .inr ⟨0, e, b, by simp [mget], rfl, h1, h2, fun v => by simp [mset], fun j' e' hj hk => ?_⟩
   cases j' with
   | zero => rfl
   | succ j' =>
    exfalso
    apply hn.1
    have hm : e' ∈ l := List.mem_of_getElem? (by simpa using hj);rw [show e.key = e'.key from h1.trans hk.symm];exact List.mem_map_of_mem hm
  ·have hne : e.key ≠ kf k := fun q => hak (inj a k (h1.symm.trans q))
   rcases qru (k := k) inj h3 hn.2 with ⟨g1, g3, g4⟩ | ⟨j, e', b', g1, g3, g4, g5, g6, g7⟩
   ·exact .inl ⟨by simp [mget, hak, g1], fun x hx => by
     rcases List.mem_cons.1 hx with rfl | hx
     ·exact hne
     ·exact g3 x hx, fun v => by simp [mset, hak, g4]⟩
   ·refine .inr ⟨j + 1, e', b', by simp [mget, hak, g1], by simpa using g3, g4, g5, fun v => by simp [mset, hak, g6], fun j' e2 hj hk => ?_⟩
    cases j' with
    | zero => simp at hj; subst hj; exact absurd hk hne
    | succ j' => rw [g7 j' e2 (by simpa using hj) hk]
 | [], _ :: _, h, _ => h.elim
 | _ :: _, [], h, _ => h.elim
theorem q2o {k : K} (KO : KOk P kt kf ok) (hk : ok k) (w : World) {m : List (K × V)} {l : List MapEntry} (h : MFits w M (m.map fun p => (kf p.1, vf p.2)) l) (hn : (l.map (·.key)).Nodup) (hm : ∀ p ∈ m, ok p.1) :
  (mget m k = none ∧ (Instr.findKey kt (kf k) l).run P w = .ok none w ∧ (∀ x ∈ l, x.key ≠ kf k) ∧ ∀ v, mset m k v = m ++ [(k, v)]) ∨
  ∃ j e b, mget m k = some b ∧ (Instr.findKey kt (kf k) l).run P w = .ok (some (j, e.val)) w ∧ l[j]? = some e ∧ e.key = kf k ∧ (vf b).p w M e.val ∧ ∀ v, mset m k v = m.set j (k, v) := by
 obtain ⟨lk, hlk⟩ := KO.key k hk
 have hkeys : ∀ e ∈ l, ∃ q, keyOf P kt e.key = some q := by
  have : ∀ {m : List (K × V)} {l : List MapEntry}, (∀ p ∈ m, ok p.1) → MFits w M (m.map fun p => (kf p.1, vf p.2)) l → ∀ e ∈ l, ∃ q, keyOf P kt e.key = some q := by
   intro m
   induction m with
   | nil => intro l hm h e he; cases l with
    | nil => cases he
    | cons => exact h.elim
   | cons p m ih => intro l hm h e he; cases l with
    | nil => cases he
    | cons e0 l =>
     rcases List.mem_cons.1 he with rfl | he
     ·obtain ⟨q, hq⟩ := KO.key p.1 (hm p List.mem_cons_self);exact ⟨q, by rw [h.1.1]; exact hq⟩
     ·exact ih (fun q hq => hm q (List.mem_cons_of_mem _ hq)) h.2 e he
  exact this hm h
 rcases KO.law.find w hlk l hkeys with ⟨f1, f2⟩ | ⟨j, e, f1, f2, f3⟩
 ·rcases qru (k := k) KO.inj h hn with ⟨g1, g3, g4⟩ | ⟨j, e, b, g1, g3, g4, g5, g6, g7⟩
  ·exact .inl ⟨g1, f1, g3, g4⟩
  ·exact absurd g4 (f2 e (List.mem_of_getElem? g3))
 ·rcases qru (k := k) KO.inj h hn with ⟨g1, g3, g4⟩ | ⟨j', e', b, g1, g3, g4, g5, g6, g7⟩
  ·exact absurd f3 (g3 e (List.mem_of_getElem? f2))
  ·have hj := g7 j e f2 f3;subst hj;rw [f2] at g3
   cases g3
   exact .inr ⟨j, e, b, g1, f1, f2, g4, g5, g6⟩
end find
section ops
variable {K V : Type} [DecidableEq K] {kf : K → Value} {ok : K → Prop} {vf : V → G} {o : Oper} {mem : Mem} {ev : Operand → TV} {t kt et : TypeId} {x ix : Operand} {id : Nat} {m : List (K × V)} {k : K} {z : V}
theorem qrv (KO : KOk E.P kt kf ok) (hk : ok k) (hmk : ∀ p ∈ m, ok p.1) {ρ : Rho} {w : World} (hm : MRel E w0 M0 ρ mem w) (ht : E.P.underlying t = some (.map kt et)) {zv : Value} (hz : (E.P.info? et).bind (·.zero) = some zv) (hz0 : ∀ w M, (vf z).p w M zv)
  (hb : qr mem id = some (mpB kf vf m)) {v : Value} (hv : TRel w (zc M0 ρ) ρ (.omap id) v) (ok : Bool) : ∃ u, (vf (vj m k z)).p w (zc M0 ρ) u ∧ (Instr.lookup t v (kf k) ok).run E.P w = .ok (if ok then .tuple #[u, .bool (mhas m k)] else u) w := by
 obtain ⟨ow, en, cl, h1, rfl, h2, h3, h4⟩ := qk9 hm hb hv
 have hzr : (zeroValue et).run E.P w = .ok zv w := by
  cases hi : E.P.info? et with
  | none => rw [hi] at hz; cases hz
  | some i =>
   rw [hi] at hz;have hz : i.zero = some zv := hz
   simp [zeroValue, typeInfo, hi, hz]
 obtain ⟨lk, hlk⟩ := KO.key k hk;have hck := KO.law.check w en.isEmpty hlk
 rcases q2o (k := k) KO hk w h3 h4.2.2 hmk with ⟨g1, g2, _⟩ | ⟨j, e, b, g1, g2, g3, g4, g5, _⟩
 ·refine ⟨zv, by simp only [vj, g1]; exact hz0 _ _, ?_⟩
  simp [Instr.lookup, run_underlying ht, MapKept.run_getObj_map h2, hck, g2, hzr, mhas, g1]
 ·refine ⟨e.val, by simp only [vj, g1]; exact g5, ?_⟩
  simp [Instr.lookup, run_underlying ht, MapKept.run_getObj_map h2, hck, g2, mhas, g1]
theorem qqj (KO : KOk E.P kt kf ok) (hk : ok k) (hmk : ∀ p ∈ m, ok p.1) {zv : Value} (ho : o.op = .lookup t x ix true) (ht : E.P.underlying t = some (.map kt et)) (hz : (E.P.info? et).bind (·.zero) = some zv) (hz0 : ∀ w M, (vf z).p w M zv)
  (hx : ev x = .omap id) (hi2 : ∀ w M ρ u, TRel w M ρ (ev ix) u → u = kf k) (hb : qr mem id = some (mpB kf vf m)) : Eff E o mem ev (.g (.tup [vf (vj m k z), G.bool (mhas m k)])) := by
 intro w0 M0 ρ w e hm he;have h1 := he x (by rw [ho]; simp [Op.operands]);rw [hx] at h1;have h2 := he ix (by rw [ho]; simp [Op.operands]);have h2' : e ix = kf k := hi2 _ _ _ _ h2;obtain ⟨u, g1, g2⟩ := qrv (z := z) (k := k) KO hk hmk hm ht hz hz0 hb h1 true
 have : (execOp e o).run E.P w = .ok (.value (.tuple #[u, .bool (mhas m k)])) w := by simp only [execOp, ho, h2', Sem.run_bind, g2, Result.andThen_ok, Sem.run_pure]; rfl
 rw [this];exact ⟨Grow.refl w, [u, .bool (mhas m k)], U, g1, U, O⟩
theorem qrw (KO : KOk E.P kt kf ok) (hk : ok k) (hmk : ∀ p ∈ m, ok p.1) {y : Operand} {v : V} {ins : Bool} (ho : o.op = (if ins then .insert t x ix y else .mapUpdate t x ix y)) (ht : E.P.underlying t = some (.map kt et))
  (hx : ev x = .omap id) (hi2 : ∀ w M ρ u, TRel w M ρ (ev ix) u → u = kf k) (hy : ev y = .g (vf v)) (hb : qr mem id = some (mpB kf vf m)) : EffW E o mem ev ww ((id, mpB kf vf (mset m k v)) :: mem) none := by
 intro w0 M0 ρ w e' hm he
 have hop : ∀ (P : Op → Prop), P (.insert t x ix y) → P (.mapUpdate t x ix y) → P o.op := fun P h1 h2 => by rw [ho]; cases ins <;> assumption
 have hmem : ∀ q, q = x ∨ q = ix ∨ q = y → q ∈ o.op.operands := fun q hq => by
  rw [ho]; cases ins <;> simp [Op.operands] <;> exact hq
 have h1 := he x (hmem _ (.inl rfl));rw [hx] at h1;have h2 := he ix (hmem _ (.inr (.inl rfl)));have h2' : e' ix = kf k := hi2 _ _ _ _ h2;have h3 := he y (hmem _ (.inr (.inr rfl)));rw [hy] at h3;have h3' : (vf v).p w (zc M0 ρ) (e' y) := h3;obtain ⟨ow, en, cl, g1, g2, g3, g4, g5⟩ := qk9 hm hb h1;obtain ⟨lk, hlk⟩ := KO.key k hk;have hck := KO.law.check w false hlk
 have hexec : execOp e' o = (do Instr.mapUpdate t (e' x) (e' ix) (e' y); pure .skip) := by cases ins <;> simp [execOp, ho]
 have hset : ∀ (ob : Obj), (w.heap.setIfInBounds ow.b ob).size = w.heap.size := fun ob => by simp
 have hlt : ow.b < w.heap.size := (Array.getElem?_eq_some_iff.1 g3).1
 -- what the new map is
 obtain ⟨en', cl', hrun, hf, hst⟩ : ∃ en' cl', (Instr.mapUpdate t (e' x) (e' ix) (e' y)).run E.P w = .ok () { w with heap := w.heap.setIfInBounds ow.b (.map en' cl') } ∧ MFits w (zc M0 ρ) ((mset m k v).map fun p => (kf p.1, vf p.2)) en'.toList ∧ MapKept.Stamped en' cl' := by
  rcases q2o (k := k) KO hk w g4 g5.2.2 hmk with ⟨q1, q2, q3, q4⟩ | ⟨j, e, b, q1, q2, q3, q4, q5, q6⟩
  ·refine ⟨en.push { key := kf k, val := e' y, born := cl }, cl + 1, ?_, ?_, MapKept.stamped_push g5 q3⟩
   ·simp [Instr.mapUpdate, g2, h2', run_underlying ht, MapKept.run_getObj_map g3, hck, q2, MapKept.run_setObj_map _ g3]
   ·rw [q4 v, List.map_append, Array.toList_push];exact MFits.push g4 U h3'
  ·have hj : en[j]? = some e := by simpa using q3
   refine ⟨en.modify j fun e => { e with key := kf k, val := e' y }, cl, ?_, ?_, MapKept.stamped_modify g5 _ _ (fun _ _ => U) (fun e0 _ he0 => by rw [hj] at he0; cases he0; exact q4.symm)⟩
   ·simp [Instr.mapUpdate, g2, h2', run_underlying ht, MapKept.run_getObj_map g3, hck, q2, hj, q4, KO.law.stays w hlk, MapKept.run_setObj_map _ g3]
   ·rw [q6 v, qhy q3, List.map_set];exact MFits.set j g4 U h3'
 have hrun2 : (execOp e' o).run E.P w = .ok .skip { w with heap := w.heap.setIfInBounds ow.b (.map en' cl') } := by rw [hexec, Sem.run_bind, hrun]; rfl
 rw [hrun2];have hoth := (MapKept.heap_set (o' := .map en' cl') g3).2;have hd : Diff ρ id w { w with heap := w.heap.setIfInBounds ow.b (.map en' cl') } := ⟨rfl, rfl, rfl, by simp, fun b _ hne => hoth b (hne ow g1)⟩
 have hM : ∀ b, b < w.heap.size → zc M0 (jj ρ id (some ow)) b → zc M0 ρ b := by
  rintro b hb (h | ⟨i, o, h, rfl⟩)
  ·exact .inl h
  ·by_cases hi : i = id
   ·subst hi; rw [qx] at h; cases h; exact .inr ⟨i, ow, g1, rfl⟩
   ·exact .inr ⟨i, o, by simpa [jj, hi] using h, rfl⟩
 have hh : ∀ b, b < w.heap.size → ¬ zc M0 ρ b → ({ w with heap := w.heap.setIfInBounds ow.b (.map en' cl') } : World).heap[b]? = w.heap[b]? := fun b _ hno => hoth b fun he => hno (.inr ⟨id, ow, g1, he.symm⟩);obtain ⟨k1, k2⟩ := kg (id := id) (x := some ow) (blk' := mpB kf vf (mset m k v)) none hm hd (fun o ho => by cases ho; exact ⟨.inr ⟨ow, g1, rfl⟩, by simpa using hlt⟩) (.inr ⟨rfl, .inr g1⟩) (fun _ b _ _ => z8 b) (.inl rfl)
  ⟨ow, en', cl', qx _ _ _, (MapKept.heap_set (o' := .map en' cl') g3).1, hf.mono hh hM, hst⟩
 exact ⟨_, k1, k2, U⟩
end ops
end
def kf2 (p : ByteArray × ByteArray) : Value := .agg #[.string p.1, .string p.2]
def ok2 (p : ByteArray × ByteArray) : Prop := p.1.size ≤ 1000 ∧ p.2.size ≤ 1000
theorem lay2 : laidOutB Tryz.prog = true := by kernel_rfl
theorem u167 : Tryz.prog.underlying 191 = some (.array 2 9) := by kernel_rfl
theorem zbr : Tryz.prog.keyType 191 = true := by kernel_rfl
theorem q7x : Tryz.prog.cellsOf 191 = 2 := by kernel_rfl
theorem co9 : Tryz.prog.cellsOf 9 = 1 := by kernel_rfl
theorem sz0 : ∃ n, Tryz.prog.types.size + 1 = n + 2 := ⟨Tryz.prog.types.size - 1, by
 have : 1 ≤ Tryz.prog.types.size := of_decide_eq_true (by kernel_rfl)
 omega⟩
theorem ko2 : KOk Tryz.prog 191 kf2 ok2 where
 law := deep_law_laid lay2 (m := 3) (by decide) (k := 191) (of_decide_eq_true (by kernel_rfl)) (by kernel_rfl) (by kernel_rfl)
 key := fun p hp => by
  obtain ⟨n, hn⟩ := sz0
  have h1 : p.1.size ≤ maxLen := by have := hp.1; unfold maxLen; omega
  have h2 : p.2.size ≤ maxLen := by have := hp.2; unfold maxLen; omega
  have hf : (kf2 p).formed Tryz.prog 191 = true := by
   unfold kf2 Value.formed;rw [u167, q7x]; rfl
  have hl : (Tryz.prog.keyLits (n + 2) 191 (kf2 p).cells.toList) = some [Lit.string p.1.data.toList, Lit.string p.2.data.toList] := by
   unfold Program.keyLits;rw [u167];simp only [q7x, co9, kf2, Value.cells, List.length_cons, List.length_nil, Nat.zero_add, ↓reduceIte];have hr : List.range 2 = [0, 1] := rfl;unfold Program.keyLits;rw [hr, Tryz.underlying9]
   simp [h1, h2]
  unfold keyOf;rw [u167];simp only [zbr, hf, Bool.and_self, ↓reduceIte, hn, hl, Option.map_some];exact ⟨_, U⟩
 inj := fun a b h => by
  unfold kf2 at h
  injection h with h
  have h := congrArg Array.toList h;simp only [List.cons.injEq, Value.string.injEq, and_true] at h;exact Prod.ext h.1 h.2
section
variable {E : Env} {w0 : World} {M0 : Nat → Prop}
def q7y {γ : Type} (E : Env) (w0 : World) (M0 : Nat → Prop) (Q : Exit → ASt → Prop) (n : Nat) (t : Nat → TV) (m : γ → Mem) (K : γ → Prop) (m0 : Mem) : Exit → ASt → Prop
 | .normal, s => ∃ g, K g ∧ MemL s (m g)
 | .ret, s => ∃ mx, AWp E w0 M0 .ret Q ⟨n, t, mx⟩ ∧ qby m0 mx ∧ qxd mx = true ∧ MemL s mx
 | .exit id, s => ∃ mx, AWp E w0 M0 (.exit id) Q ⟨n, t, mx⟩ ∧ qby m0 mx ∧ qxd mx = true ∧ MemL s mx
 | _, _ => False
end
section
variable {E : Env}
end
section
structure NY where
 n : Nat → Prop
 y : Nat → Prop
def NY.no : NY := ⟨fun _ => False, fun _ => False⟩
def SeqN (E : Env) (g : FuncId) (caps : List G) {α : Type} (enc : α → Value) (xs : List α) : Prop :=
 ∀ (w : World) (M : Nat → Prop) (cs : List Value) (l : Nat) (J : NY → List α → Bool → World → Prop), (∀ b, M b → b < w.heap.size) → GlOk E w M → FitsT w M caps cs →
  (∀ N pre st W W', J N pre st W → (∀ b, N.y b → ¬ N.n b) → BelowX N.n W W' → J N pre st W') → (∀ N N' pre st W, J N pre st W → (∀ b, N' b → N.n b ∨ W.heap.size ≤ b) → J ⟨N', N.y⟩ pre st W) →
  (∀ N pre x post W1, xs = pre ++ x :: post → BelowX M w W1 → (∀ b, N.n b → w.heap.size ≤ b ∧ b < W1.heap.size) → (∀ b, N.y b → (w.heap.size ≤ b ∧ b < W1.heap.size) ∧ ¬ N.n b) → J N pre false W1 → YieldAt Fence.wide 0 E.P l #[enc x] W1 fun e W' =>
   BelowX (fun b => M b ∨ N.y b) W1 W' ∧ ∃ b, e = .returned (.bool b) ∧ ∃ Y, (∀ b, Y b → (N.y b ∨ W1.heap.size ≤ b) ∧ b < W'.heap.size) ∧ J ⟨N.n, Y⟩ (pre ++ [x]) (!b) W') →
  J NY.no [] false w → CallsIn Fence.wide 0 E.P g (#[.func (.yield l) #[] #[]] ++ cs.toArray) w fun e W' => (∃ v, e = .returned v) ∧ ∃ Y, (∀ b, Y b → w.heap.size ≤ b ∧ b < W'.heap.size) ∧ (J ⟨fun _ => False, Y⟩ xs false W' ∨ ∃ pre, J ⟨fun _ => False, Y⟩ pre true W')
theorem BelowX.none {L : Nat → Prop} {a b : World} (h : Grow a b) : BelowX L a b := BelowX.of_grow h
structure ItC (P : Program) {α : Type} (l : Nat) (enc : α → Value) (xs : List α) where
 w : World
 lo : Nat
 M : Nat → Prop
 J : NY → List α → Bool → World → Prop
 N0 : NY
 hM : ∀ b, M b → b < lo
 hlo : lo ≤ w.heap.size
 turn : ∀ N pre st W W', J N pre st W → (∀ b, N.y b → ¬ N.n b) → BelowX N.n W W' → J N pre st W'
 take : ∀ N N' pre st W, J N pre st W → (∀ b, N' b → N.n b ∨ W.heap.size ≤ b) → J ⟨N', N.y⟩ pre st W
 yield : ∀ N pre x post W1, xs = pre ++ x :: post → BelowX (fun b => M b ∨ N0.y b) w W1 → (∀ b, N.n b → lo ≤ b ∧ b < W1.heap.size) → (∀ b, N.y b → (lo ≤ b ∧ b < W1.heap.size) ∧ ¬ N.n b) → J N pre false W1 → YieldAt Fence.wide 0 P l #[enc x] W1 fun e W' =>
   BelowX (fun b => M b ∨ N.y b) W1 W' ∧ ∃ b, e = .returned (.bool b) ∧ ∃ Y, (∀ b, Y b → (N.y b ∨ W1.heap.size ≤ b) ∧ b < W'.heap.size) ∧ J ⟨N.n, Y⟩ (pre ++ [x]) (!b) W'
theorem BelowX.thru {M Y Y' : Nat → Prop} {a b c : World} (h : BelowX (fun k => M k ∨ Y k) a b) (hY : ∀ k, Y' k → Y k ∨ a.heap.size ≤ k) (k : BelowX (fun k => M k ∨ Y' k) b c) : BelowX (fun k => M k ∨ Y k) a c :=
 ⟨k.os.trans h.os, k.tape.trans h.tape, k.output.trans h.output, Nat.le_trans h.size k.size, fun i hi hl => (k.block i (Nat.lt_of_lt_of_le hi h.size) (fun hx => hx.elim (fun hx => hl (.inl hx)) fun hx => (hY i hx).elim (fun hx => hl (.inr hx)) fun hx => by omega)).trans (h.block i hi hl)⟩
def ItC.at {P : Program} {α : Type} {l : Nat} {enc : α → Value} {xs : List α} (C : ItC P l enc xs) (w' : World) (h : BelowX (fun b => C.M b ∨ C.N0.y b) C.w w') (N0 : NY) (hY : ∀ b, N0.y b → C.N0.y b ∨ C.w.heap.size ≤ b) : ItC P l enc xs :=
 ⟨w', C.lo, C.M, C.J, N0, C.hM, Nat.le_trans C.hlo h.size, C.turn, C.take, fun N pre x post W1 hx hB hN hJ => C.yield N pre x post W1 hx (h.thru hY hB) hN hJ⟩
def qxs (N : Nat → Prop) (ds : List Deferred) (W : World) : Prop := ds.Nodup ∧ ∀ d ∈ ds, ∃ D, d = { target := .collected D, args := #[] } ∧ N D ∧ W.heap[D]? = some (.deferred (some []))
variable {α : Type} {E : Env} {l : Nat} {enc : α → Value} {xs : List α}
def IRel (E : Env) {l : Nat} {enc : α → Value} {xs : List α} (C : ItC E.P l enc xs) (s : ASt) (p : List α × Bool) (a : Act) (W : World) : Prop :=
 ∃ N W1, C.J N p.1 p.2 W1 ∧ (∀ b, N.n b → C.lo ≤ b ∧ b < W1.heap.size) ∧ BelowX (fun b => C.M b ∨ C.N0.y b) C.w W1 ∧ qxs N.n a.defers W1 ∧ ARel E W1 (fun b => (C.M b ∨ N.n b) ∨ N.y b) s ⟨a.tmps, []⟩ W ∧ (∀ b, C.N0.n b → N.n b) ∧ ∀ b, N.y b → ((C.lo ≤ b ∧ b < W1.heap.size) ∧ ¬ N.n b) ∧ (C.N0.y b ∨ C.w.heap.size ≤ b)
def IWp (E : Env) {l : Nat} {enc : α → Value} {xs : List α} (C : ItC E.P l enc xs) (c : Code) (Q : Exit → ASt → List α × Bool → Prop) (s : ASt) (p : List α × Bool) : Prop :=
 ∀ a W, IRel E C s p a W → c.wpIn E.F 0 E.P (fun e a' W' => ∃ s' p', IRel E C s' p' a' W' ∧ Q e s' p') a W
def q7z (K : ASt → List α × Bool → Prop) (Q : Exit → ASt → List α × Bool → Prop) : Exit → ASt → List α × Bool → Prop
 | .normal, s, p => K s p
 | e, s, p => Q e s p
def q2p (id : Nat) (Q : Exit → ASt → List α × Bool → Prop) : Exit → ASt → List α × Bool → Prop
 | .exit id', s, p => if id' = id then Q .normal s p else Q (.exit id') s p
 | e, s, p => Q e s p
variable {C : ItC E.P l enc xs} {Q : Exit → ASt → List α × Bool → Prop} {s : ASt} {p : List α × Bool}
theorem vv {x y : Code} (h : IWp E C x (q7z (IWp E C y Q) Q) s p) : IWp E C (.seq x y) Q s p :=
 fun a w ha => wpIn_seq (wpIn_mono (h a w ha) fun e a' w' ⟨s', p', h1, h2⟩ => by
  cases e <;> first | exact h2 a' w' h1 | exact ⟨s', p', h1, h2⟩)
theorem qdt (h : Q .normal s p) : IWp E C .skip Q s p := fun _ _ ha => wpIn_skip ⟨s, p, ha, h⟩
theorem qtc (h : Q .ret s p) : IWp E C .ret Q s p := fun _ _ ha => wpIn_ret ⟨s, p, ha, h⟩
theorem qln {id : Nat} (h : Q (.exit id) s p) : IWp E C (.exit id) Q s p := fun _ _ ha => wpIn_exit ⟨s, p, ha, h⟩
theorem qbn {id : Nat} {c : Code} (h : IWp E C c (q2p id Q) s p) : IWp E C (.block id c) Q s p :=
 fun a w ha => wpIn_block (wpIn_mono (h a w ha) fun e a' w' ⟨s', p', h1, h2⟩ => by
  cases e with
  | exit id' =>
   unfold q2p at h2;unfold Exit.inBlock;dsimp only at h2 ⊢
   split
   ·rename_i he; rw [if_pos he] at h2; exact ⟨s', p', h1, h2⟩
   ·rename_i he; rw [if_neg he] at h2; exact ⟨s', p', h1, h2⟩
  | _ => exact ⟨s', p', h1, h2⟩)
theorem qdu {c : Operand} {x y : Code} (b : Bool) (hb : s.eval E c = .g (.lit (.bool b))) (ht : b = true → IWp E C x Q s p) (hf : b = false → IWp E C y Q s p) : IWp E C (.cond c x y) Q s p := by
 intro a w ha;obtain ⟨N, W1, h1, h2, h3, h4, h5, h6⟩ := id ha;obtain ⟨ρ, _, hx⟩ := h5.rel;have hc := hx c;rw [hb] at hc;have hc' : a.eval c = .bool b := hc
 cases b with
 | true => exact wpIn_cond_true hc' (ht rfl a w ha)
 | false => exact wpIn_cond_false hc' (hf rfl a w ha)
theorem IRel.weak {l1 : List (Nat × TV)} {m : Mem} {a : Act} {w : World} (h1 : qjx s l1) (h2 : MemL s m) (h3 : wc l1 m = true) (hbw : E.bow = []) (h : IRel E C s p a w) : IRel E C (stt s.n l1 m) p a w := by
 obtain ⟨N, W1, k1, k2, k3, k4, k5, k6⟩ := h;exact ⟨N, W1, k1, k2, k3, k4, k5.weak h1 h2 h3 (by unfold qkv; rw [hbw]; rfl), k6⟩
theorem q4w {c : Code} {l1 : List (Nat × TV)} {m : Mem} (h1 : qjx s l1) (h2 : MemL s m) (h3 : wc l1 m = true) (h : IWp E C c Q (stt s.n l1 m) p) (hbw : E.bow = [] := by rfl) : IWp E C c Q s p :=
 fun a w ha => h a w (ha.weak h1 h2 h3 hbw)
def q70 {γ : Type} (S : γ → List (Nat × TV)) (Pp : γ → List α × Bool) (P : γ → Prop) (n : Nat) (ok : γ → Prop) (s : ASt) (p : List α × Bool) : Prop := s.n = n ∧ ∃ g, qjx s (S g) ∧ wc (S g) [] = true ∧ p = Pp g ∧ P g ∧ ok g
theorem qh6 {γ : Type} {c : Code} (S : γ → List (Nat × TV)) (Pp : γ → List α × Bool) (P : γ → Prop) (μ : γ → Nat) (h0 : q70 S Pp P s.n (fun _ => True) s p)
  (round : ∀ g, P g → IWp E C c (q7z (q70 S Pp P s.n (fun g' => μ g' < μ g)) Q) (stt s.n (S g) []) (Pp g)) (hbw : E.bow = [] := by rfl) : IWp E C (.loop c) Q s p := by
 intro a w ha;obtain ⟨_, g0, h1, h3, rfl, h4, _⟩ := h0;have ha' := ha.weak h1 (m := []) trivial h3 hbw;refine wpIn_loop_ghost (fun n a w => ∃ g, μ g = n ∧ P g ∧ IRel E C (stt s.n (S g) []) (Pp g) a w) (μ g0) ⟨g0, U, h4, ha'⟩ ?_;rintro n a w ⟨g, rfl, hP, hg⟩;refine wpIn_mono (round g hP a w hg) ?_;rintro e a' w' ⟨s', p', hs', hq⟩
 cases e with
 | normal =>
  obtain ⟨k0, g', k1, k3, rfl, k4, k5⟩ := hq;refine ⟨μ g', k5, g', U, k4, ?_⟩;have := hs'.weak k1 (m := []) trivial k3 hbw;rw [k0] at this;exact this
 | _ => exact ⟨s', p', hs', hq⟩
theorem qu4 {F : Fence} {n : Nat} {P : Program} {o : Oper} {a : Act} {w : World} {K : Act → World → Prop} {Q' : Exit → Act → World → Prop}
  (h : o.wpIn F n P ⟨a.tmps, []⟩ w (fun a' w' => a'.defers = [] ∧ K ⟨a'.tmps, a.defers⟩ w') (fun _ _ _ => False)) : o.wpIn F n P a w K Q' := by
 obtain ⟨h1, h2⟩ := h;refine ⟨h1, ?_⟩;have h2 : o.uponIn F n P ⟨a.tmps, []⟩ (fun a' w' => a'.defers = [] ∧ K ⟨a'.tmps, a.defers⟩ w') (fun _ _ _ => False) ((o.semAt F.round a.eval).run P w) := h2
 have hput : ∀ v, (⟨((⟨a.tmps, []⟩ : Act).put o.dst v).tmps, a.defers⟩ : Act) = a.put o.dst v := fun v => by cases o.dst <;> rfl
 have hp : ∀ v w', (fun (a' : Act) (w' : World) => a'.defers = [] ∧ K ⟨a'.tmps, a.defers⟩ w') ((⟨a.tmps, []⟩ : Act).put o.dst v) w' → K (a.put o.dst v) w' := fun v w' h => by
  have := h.2;rw [hput] at this;exact this
 generalize (o.semAt F.round a.eval).run P w = res at *
 cases res with
 | halt x w' =>
  cases x <;> exact h2.elim
 | ok n w' =>
  cases n with
  | value v => exact hp _ _ h2
  | skip => exact hp _ _ h2
  | defer d =>
   have := h2.1
   exfalso
   cases hd : o.dst <;> simp [Act.put, hd] at this
  | enter f args =>
   obtain ⟨h3, h4⟩ := h2;refine ⟨h3, h4.mono ?_⟩;intro e w'' h
   cases e with
   | returned v => exact hp _ _ h
   | panicked c => exact h.elim
   | outgrown => obtain ⟨_, _, h⟩ := h; exact h.elim
  | row r args =>
   obtain ⟨h3, h4⟩ := h2;exact ⟨h3, RowsIn.mono h4 (fun v w'' h => hp _ _ h)⟩
  | round l' f tmps assign body =>
   obtain ⟨h3, h4⟩ := h2;refine ⟨h3, h4.mono ?_⟩;intro e w'' h
   cases e with
   | returned v => exact hp _ _ h
   | panicked c => exact h.elim
   | outgrown => obtain ⟨_, _, h⟩ := h; exact h.elim
  | _ => exact h2.elim
theorem IRel.step {ops : Array Oper} {o : Oper} {c : Cls} {s' : ASt} (h : AStep E ops o c s s') (hmk : E.mks = false) {a : Act} {w : World} (ha : IRel E C s p a w) {K : Act → World → Prop} {Q' : Exit → Act → World → Prop}
  (hK : ∀ a' w', IRel E C s' p a' w' → K a' w') :
  if Region.wanted o (yielded ops a.tmps) then o.wpIn E.F 0 E.P a w K Q' else (∀ f, o.about E.P w a.eval = some f → E.F.fn f) ∧ K (a.put o.dst undef) w := by
 obtain ⟨N, W1, k1, k2, k3, k4, k5, k6⟩ := ha
 have hs := h.sound (w0 := W1) (M0 := fun b => (C.M b ∨ N.n b) ∨ N.y b) k5 (K := fun a' w' => a'.defers = [] ∧ K ⟨a'.tmps, a.defers⟩ w') (Q := fun _ _ _ => False) (fun a' w' h' => by
  have hd := h'.defers hmk;refine ⟨hd, hK _ _ ⟨N, W1, k1, k2, k3, k4, ?_, k6⟩⟩;obtain ⟨t, d⟩ := a';simp only at hd;subst hd
  exact h')
 have hput : ∀ v, (⟨((⟨a.tmps, []⟩ : Act).put o.dst v).tmps, a.defers⟩ : Act) = a.put o.dst v := fun v => by cases o.dst <;> rfl
 have hs : if Region.wanted o (yielded ops a.tmps) then o.wpIn E.F 0 E.P ⟨a.tmps, []⟩ w (fun a' w' => a'.defers = [] ∧ K ⟨a'.tmps, a.defers⟩ w') (fun _ _ _ => False) else (∀ f, o.about E.P w a.eval = some f → E.F.fn f) ∧
  (fun (a' : Act) (w' : World) => a'.defers = [] ∧ K ⟨a'.tmps, a.defers⟩ w') ((⟨a.tmps, []⟩ : Act).put o.dst undef) w := hs
 split
 ·rename_i hw
  rw [if_pos hw] at hs;exact qu4 hs
 ·rename_i hw
  rw [if_neg hw] at hs;have := hs.2.2;rw [hput] at this;exact ⟨hs.1, this⟩
theorem qrx {E : Env} {f : FuncId} {tmps : Array Value} {assign body : Code} {w : World} {R : Ending → World → Prop} {l : Nat} (h : RoundIn Fence.wide 0 E.P l f tmps assign body w R) : RoundIn E.F 0 E.P l f tmps assign body w R := by
 obtain ⟨P, gl, ord, bow, rnd, mk⟩ := E
 cases rnd with
 | none => exact h
 | some l => exact h
theorem IRel.yield {o : Oper} {f arg : Operand} {ts : Array TypeId} {x : α} {post : List α} (hd : ∀ d, o.dst = some d → d < s.n) (ho : o.op = .call ⟨.value f, #[arg], ts⟩) (hp : p.2 = false) (hm0 : s.mem = [])
  (hf : s.eval E f = .g (G.lit (.func (.yield l) #[] #[]))) (harg : ∀ w M ρ v, TRel w M ρ (s.eval E arg) v → v = enc x) (hx : xs = p.1 ++ x :: post) (hbw : E.bow = []) {a : Act} {W : World} (ha : IRel E C s p a W)
  {K : Act → World → Prop} {Q' : Exit → Act → World → Prop} (hK : ∀ b a' W', IRel E C (s.put o.dst (.g (G.bool b))) (p.1 ++ [x], !b) a' W' → K a' W') : o.wpIn E.F 0 E.P a W K Q' := by
 obtain ⟨N, W1, k1, k2, k3, k4, k5, k6⟩ := ha;obtain ⟨ρ, hm, _, ht⟩ := k5.ex;have hg : Grow W1 W := hm.below.grow (fun _ => w7 hbw);have hev := fun y => qj5 hm ht y
 have e1 : a.eval f = .func (.yield l) #[] #[] := by
  have := hev f;rw [hf] at this;exact this
 have e2 : a.eval arg = enc x := harg _ _ _ _ (hev arg);have hB : BelowX (fun b => C.M b ∨ C.N0.y b) C.w W := k3.trans (BelowX.of_grow hg)
 have hJ : C.J N p.1 false W := by
  rw [← hp];exact C.turn _ _ _ _ _ k1 (fun b hb => (k6.2 b hb).1.2) (BelowX.of_grow hg)
 obtain ⟨fn, tmps, assign, body, y1, y2⟩ := C.yield N p.1 x post W hx hB (fun b hb => ⟨(k2 b hb).1, Nat.lt_of_lt_of_le (k2 b hb).2 hg.size⟩) (fun b hb => ⟨⟨(k6.2 b hb).1.1.1, Nat.lt_of_lt_of_le (k6.2 b hb).1.1.2 hg.size⟩, (k6.2 b hb).1.2⟩) hJ;refine ⟨fun _ _ => O, ?_⟩
 have hsem : o.semAt E.F.round a.eval = execOp a.eval o := by
  cases E.F.round with
  | none => rfl
  | some l' => exact Oper.semAt_some _ _ _ fun c hc => by rw [ho] at hc; cases hc
 have hrun : (execOp a.eval o).run E.P W = .ok (.round l fn tmps assign body) W := by
  simp [execOp, ho, resolve, e1, e2, Deferred.ofValue, invoke, y1]
 rw [hsem, hrun];refine ⟨qj8, (qrx y2).mono ?_⟩;rintro e W' ⟨hB', b, rfl, Y, hY, hJ'⟩;refine hK b _ _ ⟨⟨N.n, Y⟩, W', hJ', fun b hb => ⟨(k2 b hb).1, Nat.lt_of_lt_of_le (k2 b hb).2 (Nat.le_trans hg.size hB'.size)⟩, hB.thru (fun b hb => (k6.2 b hb).2) hB', ?_, ?_, k6.1, fun b hb => ?_⟩
 ·rw [qe9];refine ⟨k4.1, fun d hd => ?_⟩;obtain ⟨D, q1, q2, q3⟩ := k4.2 d hd;have hlt := (k2 D q2).2;exact ⟨D, q1, q2, (hB'.block D (Nat.lt_of_lt_of_le hlt hg.size) (fun h => h.elim (fun h => by have := C.hM D h; have := (k2 D q2).1; omega) (fun h => (k6.2 D h).1.2 q2))).trans ((hg.block D hlt).trans q3)⟩
 ·have hρ : ρ = fun _ => none := by
   funext id
   cases hq : ρ id with
   | none => rfl
   | some x =>
    obtain ⟨blk, hb⟩ := hm.dom id x hq;rw [hm0] at hb
    cases hb
  subst hρ;have hh : ∀ b, b < W.heap.size → ¬ zc (fun b => (C.M b ∨ N.n b) ∨ N.y b) (fun _ => none) b → W'.heap[b]? = W.heap[b]? := fun b hb hno => hB'.block b hb fun h => hno (.inl (h.elim (fun h => .inl (.inl h)) .inr))
  have hM' : ∀ b, b < W.heap.size → zc (fun b => (C.M b ∨ N.n b) ∨ Y b) (fun _ => none) b → zc (fun b => (C.M b ∨ N.n b) ∨ N.y b) (fun _ => none) b := by
   rintro b hb ((h | h) | ⟨_, _, h, _⟩)
   ·exact .inl (.inl h)
   ·exact .inl (.inr ((hY b h).1.resolve_right (by omega)))
   ·cases h
  have hgl' : GlOk E W' (zc (fun b => (C.M b ∨ N.n b) ∨ Y b) (fun _ => none)) := fun g vs hgv => by
   have h1 := hm.glob g vs hgv;exact ⟨⟨fun h => h1.1.1 (hM' g h1.1.2 h), Nat.lt_of_lt_of_le h1.1.2 hB'.size⟩, h1.2.mono hh hM' h1.1.1⟩
  refine ⟨fun _ => U, by rw [qj7]; cases o.dst <;> exact k5.size, fun _ => none, ⟨BelowX.refl _ W', fun b hb => hb.elim (fun hb => hb.elim (fun hb => Nat.lt_of_lt_of_le (C.hM b hb) (Nat.le_trans C.hlo (Nat.le_trans hB.size hB'.size))) (fun hb => Nat.lt_of_lt_of_le (k2 b hb).2 (Nat.le_trans hg.size hB'.size))) (fun hb => (hY b hb).2), hgl', (fun _ _ h => by cases h), (fun _ _ h => by cases h), (fun _ _ _ _ h => by cases h), ?_, ?_, ?_⟩, Marks.nil, fun i => ?_⟩
  ·intro id x h; rw [hbw] at h; cases h
  ·exact ⟨fun b h => absurd h (qao hbw), by have h1 := hm.lentM.2; have h2 := hm.below.size; have h3 := hB'.size; omega⟩
  ·intro id blk hb;have hb : qr (s.put o.dst (.g (G.bool b))).mem id = some blk := hb;have : (s.put o.dst (.g (G.bool b))).mem = s.mem := rfl;rw [this, hm0] at hb
   cases hb
  ·show TRel _ _ _ ((s.put o.dst (.g (G.bool b))).get i) ((a.put o.dst (.bool b)).tmps.getD i undef);rw [qvs, qj6 _ _ _ (fun d h => by have := hd d h; rw [← k5.size] at this; exact this)]
   split
   ·exact U
   ·exact (ht i).mono none (by cases s.get i <;> rfl) hh hM' (fun _ _ _ => U)
 ·rcases (hY b hb).1 with h | h
  ·exact ⟨⟨⟨(k6.2 b h).1.1.1, (hY b hb).2⟩, (k6.2 b h).1.2⟩, (k6.2 b h).2⟩
  ·have h1 := hB.size;have h2 := C.hlo;refine ⟨⟨⟨by omega, (hY b hb).2⟩, fun hn => ?_⟩, .inr (by omega)⟩;have := (k2 b hn).2;have := hg.size
   omega
def IStep (E : Env) (l : Nat) (enc : α → Value) (xs : List α) (ops : Array Oper) (o : Oper) (K : ASt → List α × Bool → Prop) (s : ASt) (p : List α × Bool) : Option Cls → Prop
 | some c => ∃ s', AStep E ops o c s s' ∧ K s' p
 | none => (∀ d, o.dst = some d → d < s.n) ∧ ∃ gb, vi ops o s gb ∧ (gb = false → K (s.put o.dst ww) p) ∧ (gb = true → p.2 = false ∧ s.mem = [] ∧ ∃ f arg ts x post, o.op = .call ⟨.value f, #[arg], ts⟩ ∧ s.eval E f = .g (G.lit (.func (.yield l) #[] #[])) ∧
   (∀ w M ρ v, TRel w M ρ (s.eval E arg) v → v = enc x) ∧ xs = p.1 ++ x :: post ∧ ∀ b, K (s.put o.dst (.g (G.bool b))) (p.1 ++ [x], !b))
theorem IStep.sound {ops : Array Oper} {o : Oper} {c : Option Cls} {K' : ASt → List α × Bool → Prop} (h : IStep E l enc xs ops o K' s p c) (hmk : E.mks = false) (hbw : E.bow = []) {a : Act} {w : World} (ha : IRel E C s p a w) {K : Act → World → Prop} {Q' : Exit → Act → World → Prop}
  (hK : ∀ s' p' a' w', K' s' p' → IRel E C s' p' a' w' → K a' w') :
  if Region.wanted o (yielded ops a.tmps) then o.wpIn E.F 0 E.P a w K Q' else (∀ f, o.about E.P w a.eval = some f → E.F.fn f) ∧ K (a.put o.dst undef) w := by
 cases c with
 | some c =>
  obtain ⟨s', h1, h2⟩ := h;exact IRel.step h1 hmk ha fun a' w' h' => hK _ _ _ _ h2 h'
 | none =>
  obtain ⟨hd, gb, hw, hf, ht⟩ := h;obtain ⟨N, W1, k1, k2, k3, k4, k5, k6⟩ := id ha;obtain ⟨ρ, hm, _, hts⟩ := k5.ex;have hwt : Region.wanted o (yielded ops a.tmps) = gb := qpg hw hts;rw [hwt]
  cases gb with
  | false =>
   simp only [Bool.false_eq_true, if_false];refine ⟨fun _ _ => O, hK _ _ _ _ (hf U) ⟨N, W1, k1, k2, k3, by rw [qe9]; exact k4, ?_, k6⟩⟩;have := ARel.put (r := ww) (v := undef) (kill := none) (mem' := s.mem) (dst := o.dst) k5.defers k5.size Marks.nil hts hd hm (fun _ _ _ h => h) rfl
   have e : (⟨(a.put o.dst undef).tmps, []⟩ : Act) = (⟨a.tmps, []⟩ : Act).put o.dst undef := by cases o.dst <;> rfl
   rw [e];exact this
  | true =>
   simp only [if_true];obtain ⟨hp, hm0, f, arg, ts, x, post, ho, e1, e2, hx, hk⟩ := ht rfl;exact IRel.yield hd ho hp hm0 e1 e2 hx hbw ha fun b a' W' h' => hK _ _ _ _ (hk b) h'
def IOps (E : Env) (l : Nat) (enc : α → Value) (xs : List α) (ops : Array Oper) (K : ASt → List α × Bool → Prop) : List Oper → List (Option Cls) → ASt → List α × Bool → Prop
 | [], [], s, p => K s p
 | o :: os, c :: cs, s, p => IStep E l enc xs ops o (IOps E l enc xs ops K os cs) s p c
 | _, _, _, _ => False
theorem qmx {ops : Array Oper} (hmk : E.mks = false) (hbw : E.bow = []) : ∀ (lo : List Oper) (cs : List (Option Cls)) (s : ASt) (p : List α × Bool), IOps E l enc xs ops (Q .normal) lo cs s p → ∀ a w, IRel E C s p a w →
  wpListIn E.F 0 E.P ops (fun e a' w' => ∃ s' p', IRel E C s' p' a' w' ∧ Q e s' p') lo a w
 | [], [], s, p, h, a, w, ha => ⟨s, p, ha, h⟩
 | o :: os, c :: cs, s, p, h, a, w, ha => IStep.sound h hmk hbw ha fun s' p' a' w' h1 ha' => qmx hmk hbw os cs s' p' h1 a' w' ha'
 | [], _ :: _, _, _, h, _, _, _ => h.elim
 | _ :: _, [], _, _, h, _, _, _ => h.elim
theorem qlo {ops : Array Oper} (hmk : E.mks = false) : ∀ (lo : List Oper) (cs : List Cls) (s : ASt), AOps E ops lo cs s (fun s' => Q .normal s' p) → ∀ a w, IRel E C s p a w →
  wpListIn E.F 0 E.P ops (fun e a' w' => ∃ s' p', IRel E C s' p' a' w' ∧ Q e s' p') lo a w
 | [], [], s, h, a, w, ha => ⟨s, p, ha, h⟩
 | o :: os, c :: cs, s, h, a, w, ha => by
  obtain ⟨s', h1, h2⟩ := h;exact IRel.step h1 hmk ha fun a' w' ha' => qlo hmk os cs s' h2 a' w' ha'
 | [], _ :: _, _, h, _, _, _ => h.elim
 | _ :: _, [], _, h, _, _, _ => h.elim
theorem js {id : Nat} {ops : Array Oper} (cs : List Cls) (h : AOps E ops ops.toList cs s (fun s' => Q .normal s' p)) (hmk : E.mks = false := by rfl) : IWp E C (.region id ops false) Q s p :=
 fun a w ha => wpIn_region_list (qlo hmk _ cs s h a w ha)
theorem qmy {id : Nat} {ops : Array Oper} (cs : List (Option Cls)) (h : IOps E l enc xs ops (Q .normal) ops.toList cs s p) (hmk : E.mks = false := by rfl) (hbw : E.bow = [] := by rfl) : IWp E C (.region id ops false) Q s p :=
 fun a w ha => wpIn_region_list (qmx hmk hbw _ cs s p h a w ha)
theorem ist {ops : Array Oper} {K : ASt → List α × Bool → Prop} {o : Oper} {os : List Oper} {c : Cls} {cs : List (Option Cls)} (h : AOps E ops [o] [c] s (fun s' => IOps E l enc xs ops K os cs s' p)) : IOps E l enc xs ops K (o :: os) (some c :: cs) s p := by
 obtain ⟨s', h1, h2⟩ := h;exact ⟨s', h1, h2⟩
theorem qon {ops : Array Oper} {K : ASt → List α × Bool → Prop} (h : K s p) : IOps E l enc xs ops K [] [] s p := h
theorem iy {ops : Array Oper} {K : ASt → List α × Bool → Prop} {o : Oper} {os : List Oper} {cs : List (Option Cls)} {d : Nat} {f arg : Operand} {ts : Array TypeId} {pre post : List α} (x : α) (hd : o.dst = some d) (hg : o.guard = none) (hn : Nat.blt d s.n = true)
  (ho : o.op = .call ⟨.value f, #[arg], ts⟩) (hm : s.mem = []) (hf : s.eval E f = .g (G.lit (.func (.yield l) #[] #[]))) (ha : ∀ w M ρ v, TRel w M ρ (s.eval E arg) v → v = enc x) (hx : xs = pre ++ x :: post)
  (h : ∀ b, IOps E l enc xs ops K os cs (s.put (some d) (.g (G.bool b))) (pre ++ [x], !b)) : IOps E l enc xs ops K (o :: os) (none :: cs) s (pre, false) :=
 ⟨fun d' h => by rw [hd] at h; cases h; exact Nat.le_of_ble_eq_true hn, true, (by unfold vi; rw [hg]), (fun h => by cases h), fun _ => ⟨rfl, hm, f, arg, ts, x, post, ho, hf, ha, hx, fun b => by rw [hd]; exact h b⟩⟩
theorem iy_g {ops : Array Oper} {K : ASt → List α × Bool → Prop} {o : Oper} {os : List Oper} {cs : List (Option Cls)} {d j e : Nat} {want : Bool} (gb : Bool) {f arg : Operand} {ts : Array TypeId} {pre : List α} (hd : o.dst = some d) (hg : o.guard = some (j, want)) (hj : (ops[j]?).bind (·.dst) = some e) (hb : GB (s.get e) want gb) (hn : Nat.blt d s.n = true)
  (ho : o.op = .call ⟨.value f, #[arg], ts⟩) (h0 : gb = false → IOps E l enc xs ops K os cs (s.put (some d) ww) (pre, false))
  (h1 : gb = true → s.mem = [] ∧ s.eval E f = .g (G.lit (.func (.yield l) #[] #[])) ∧ ∃ x post, (∀ w M ρ v, TRel w M ρ (s.eval E arg) v → v = enc x) ∧ xs = pre ++ x :: post ∧
   ∀ b, IOps E l enc xs ops K os cs (s.put (some d) (.g (G.bool b))) (pre ++ [x], !b)) : IOps E l enc xs ops K (o :: os) (none :: cs) s (pre, false) :=
 ⟨fun d' h => by rw [hd] at h; cases h; exact Nat.le_of_ble_eq_true hn, gb, (by unfold vi; rw [hg]; exact ⟨e, hj, hb⟩), (fun h => by rw [hd]; exact h0 h), fun h => by
  obtain ⟨hm, hf, x, post, ha, hx, hk⟩ := h1 h
  exact ⟨U, hm, f, arg, ts, x, post, ho, hf, ha, hx, fun b => by rw [hd]; exact hk b⟩⟩
end
section
variable {E : Env} {w0 : World} {M0 : Nat → Prop}
theorem ARel.freeze {s : ASt} {a : Act} {w : World} (id : Nat) {blk : Blk} {l : List (Nat × TV)} {m : Mem} (hb : qr s.mem id = some blk) (h1 : FrzL s id blk l) (h2 : MemL s m) (h3 : wc l m = true) (hid : qr m id = none)
  (hbw : qkv E m = true) (hst : wz E = true) (ha : ARel E w0 M0 s a w) : ARel E w0 M0 (stt s.n l m) a w := by
 obtain ⟨ρ, hm, hmk, ht⟩ := ha.ex
 let ρ' : Rho := fun id => if (qr m id).isSome = true then ρ id else none
 have hρ : ∀ id, (qr m id).isSome = true → ρ' id = ρ id := fun id hi => by simp only [ρ', if_pos hi]
 have hρ' : ∀ id x, ρ' id = some x → ρ id = some x ∧ (qr m id).isSome = true := by
  intro id x hx;simp only [ρ'] at hx
  split at hx
  ·rename_i hi; exact ⟨hx, hi⟩
  ·cases hx
 have hM : ∀ b, zc M0 ρ' b → zc M0 ρ b := by
  rintro b (hb | ⟨id, o, ho, rfl⟩)
  ·exact .inl hb
  ·exact .inr ⟨id, o, (hρ' id _ ho).1, U⟩
 have hlent : qr E.bow id = none := by
  cases hq : qr E.bow id with
  | none => rfl
  | some x =>
   have := List.all_eq_true.1 hbw (id, x) (jk _ hq);simp only [hid] at this
   cases this
 have hno : ∀ ow, ρ id = some (some ow) → ¬ zc M0 ρ' ow.b := by
  rintro ow ho (hM0 | ⟨i, o, hi, he⟩)
  ·exact qbe hm ho hlent hst (.inl hM0)
  ·have := hm.inj i id o ow (hρ' i _ hi).1 ho he;subst this;have := (hρ' i _ hi).2;rw [hid] at this; cases this
 simp only [wc, Bool.and_eq_true, List.all_eq_true] at h3;refine ⟨ha.defers, ha.size, ρ', ⟨hm.below, hm.m0, ?_, ?_, ?_, ?_, ?_, hm.lentM, ?_⟩, hmk.sub hM, ?_⟩
 ·intro g vs hg;have := hm.glob g vs hg;exact ⟨⟨fun hb => this.1.1 (hM _ hb), this.1.2⟩, this.2.mono (fun _ _ _ => U) (fun b _ => hM b) this.1.1⟩
 ·intro id x hx;have := (hρ' id x hx).2
  cases hl : qr m id with
  | none => rw [hl] at this; cases this
  | some b => exact ⟨b, hl⟩
 ·exact fun id ow ho => hm.fresh id ow (hρ' id _ ho).1
 ·exact fun id id' ow ow' ho ho' => hm.inj id id' ow ow' (hρ' id _ ho).1 (hρ' id' _ ho').1
 ·intro id x hx;rw [hρ id (List.all_eq_true.1 hbw (id, x) (jk _ hx))];exact hm.keep id x hx
 ·intro i blk' hb0;have hb0 : qr m i = some blk' := hb0
  have hi : (qr m i).isSome = true := by rw [hb0]; rfl
  have := hm.blk i blk' (qen h2 i blk' hb0)
  cases blk' with
  | box cs =>
   obtain ⟨ow, e, vs, g1, g2, g3, g4⟩ := this;have hcl := h3.2 (i, .box cs) (jk _ hb0);exact ⟨ow, e, vs, by rw [hρ i hi]; exact g1, g2, g3, g4.sub hM hρ (by simpa [qns] using hcl)⟩
  | arr e k xs =>
   rcases this with ⟨g1, g2⟩ | ⟨ow, vs, g1, g2, g3, g4, g5, g6, g7⟩
   ·exact .inl ⟨by rw [hρ i hi]; exact g1, g2⟩
   ·exact .inr ⟨ow, vs, by rw [hρ i hi]; exact g1, g2, g3, g4, g5, g6, g7.mono (fun _ _ _ => rfl) (fun b _ => hM b)⟩
  | mp es =>
   obtain ⟨ow, en, cl, g1, g2, g3, g4⟩ := this;exact ⟨ow, en, cl, by rw [hρ i hi]; exact g1, g2, g3.mono (fun _ _ _ => rfl) (fun b _ => hM b), g4⟩
  | obj o =>
   obtain ⟨ow, g1, g2, g3⟩ := this;exact ⟨ow, by rw [hρ i hi]; exact g1, g2, g3⟩
  | mit es seen =>
   obtain ⟨ow, g1, g2, g3⟩ := this;exact ⟨ow, by rw [hρ i hi]; exact g1, g2, g3.mono rfl (fun _ _ _ => rfl) (fun b _ => hM b)⟩
  | gone => trivial
 ·intro i;show TRel _ _ _ (xj l i) _
  rcases qn8 h1 i with h4 | ⟨⟨v, h5, h6⟩, h7⟩
  ·rw [h4]; trivial
  ·rcases h7 with ⟨h8, h9⟩ | h8
   ·have := ht i;rw [h8] at this;exact this.sub (m := m) (by rw [h6]; exact h3.1 (i, v) h5) hM hρ
   ·have hv := ht i
    rcases h8 with ⟨k, xs, e, N, rfl, hN, ha1, hb1, hk⟩ | ⟨cs, gs, off, rfl, hu, hne, ha1, hb1⟩ | ⟨es, rfl, ha1, hb1⟩
    ·rw [ha1] at hv;rw [hb1];subst hN;have hview := qke hm hb hv (Nat.zero_le _) (Nat.le_refl _);obtain ⟨a', cap, e1, g1, g2, g3, g4, g5, g6⟩ := hview;simp only [Nat.sub_zero, List.drop_zero, List.take_length] at e1 g1 g4 g5 g6;refine ⟨a', cap, e1, g1, g2, g5, ?_⟩
     rcases g6 with g6 | ⟨b, o, cur, news, rfl, ⟨ow, k0, rfl⟩, k1, k2, k3⟩
     ·have : xs = [] := List.eq_nil_of_length_eq_zero g6;subst this;exact .inl ⟨U, fun ha => (g3 ha).1⟩
     ·exact .inr ⟨ow.b, o, U, hno ow k0, j8 k1 (k2.mono (fun _ _ _ => U) (fun b _ => hM b)) k3⟩
    ·rw [ha1] at hv;rw [hb1];obtain ⟨ow, g1, g2⟩ := hv;obtain ⟨ow', e, vs, g3, g4, g5, g6⟩ := hm.blk id _ hb
     have : ow' = ow := by rw [g1] at g3; simpa using g3.symm
     subst this;refine ⟨ow'.b, ow'.o + off, g2, .inr (hno ow' g1), ?_⟩;have g7 := g6;rw [qik hu] at g7;have g8 := (qb5 g7).mono (w' := w) (M' := zc M0 ρ') (fun _ _ _ => rfl) (fun b _ => hM b);have hcells : Cells w (zc M0 ρ') ow'.b 0 gs := j8 g5 g8 (fun j v hj => by simpa using hj);rw [g4];exact hcells.drop off
    ·rw [ha1] at hv;rw [hb1];obtain ⟨ow, g1, g2⟩ := hv;obtain ⟨ow', en, cl, g3, g4, g5, g6⟩ := hm.blk id _ hb
     have : ow' = ow := by rw [g1] at g3; simpa using g3.symm
     subst this;exact ⟨ow'.b, en, cl, g2, hno ow' g1, g4, g5.mono (fun _ _ _ => U) (fun b _ => hM b), g6⟩
end
section
variable {α : Type} {E : Env} {l : Nat} {enc : α → Value} {xs : List α} {C : ItC E.P l enc xs} {Q : Exit → ASt → List α × Bool → Prop} {s : ASt} {p : List α × Bool}
theorem qh7 {c : Code} (id : Nat) {blk : Blk} {l1 : List (Nat × TV)} {m : Mem} (hb : qr s.mem id = some blk) (h1 : FrzL s id blk l1) (h2 : MemL s m) (h3 : wc l1 m = true) (hid : qr m id = none)
  (h : IWp E C c Q (stt s.n l1 m) p) (hbw : E.bow = [] := by rfl) : IWp E C c Q s p := by
 rintro a w ⟨N, W1, k1, k2, k3, k4, k5, k6⟩;exact h a w ⟨N, W1, k1, k2, k3, k4, k5.freeze id hb h1 h2 h3 hid (by unfold qkv; rw [hbw]; rfl) (by unfold wz; rw [hbw]; rfl), k6⟩
def IEnd (xs : List α) : Exit → ASt → List α × Bool → Prop
 | .normal, _, p => p.2 = true ∨ p.1 = xs
 | .ret, _, p => p.2 = true ∨ p.1 = xs
 | _, _, _ => False
theorem qxt {P : Program} {fn : Func} {tmps : Array Value} {N : Nat → Prop} {J J' : World → Prop} (hJJ : ∀ W, J W → J' W) (hr : ∀ w, (results fn tmps).run P w = .ok (.tuple #[]) w) (hJ : ∀ W D o, N D → J W → J (W.putObj D o)) : ∀ (ds : List Deferred) (w1 : World), qxs N ds w1 → J w1 →
  LeavesInM Fence.wide 0 P fn tmps (fun e w'' => (∃ v, e = .returned v) ∧ J' w'') ds .returning w1
 | [], w1, _, hj => ⟨_, hr w1, ⟨_, rfl⟩, hJJ _ hj⟩
 | d :: ds, w1, ⟨hn, hd⟩, hj => by
  obtain ⟨D, rfl, hN, hD⟩ := hd _ List.mem_cons_self;obtain ⟨hn1, hn2⟩ := List.nodup_cons.1 hn;refine ⟨by simp, .inl ⟨D, _, rfl, run_takeDeferred hD, ?_⟩⟩;refine qxt hJJ hr hJ ds _ ⟨hn2, fun d' hd' => ?_⟩ (hJ _ _ _ hN hj);obtain ⟨D', rfl, hN', hD'⟩ := hd d' (List.mem_cons_of_mem _ hd');exact ⟨D', U, hN', (World.putObj_heap_other (fun e => hn1 (by rw [← e]; exact hd'))).trans hD'⟩
theorem qi3 {g : FuncId} {fn : Func} {c : Code} {caps : List G} (hf : E.P.funcs[g]? = some fn) (hb : fn.body = some c) (hn0 : Nat.ble (caps.length + 1) fn.ntmps = true) (hres : fn.results = #[])
  (h : ∀ (l : Nat) (C : ItC E.P l enc xs), IWp E C c (IEnd xs) ⟨fn.ntmps, qdq (G.lit (.func (.yield l) #[] #[]) :: caps), []⟩ ([], false)) (hbw : E.bow = [] := by rfl) (hrn : E.rnd = none := by rfl) (hnb : E.nb = 0 := by rfl) : SeqN E g caps enc xs := by
 intro w M vs l J hM hgl hv hturn htake hy h0;have hn := Nat.le_of_ble_eq_true hn0;have hlen := hv.length
 have hF : E.F = Fence.wide := by unfold Env.F; rw [hrn]; rfl
 let C : ItC E.P l enc xs := ⟨w, w.heap.size, M, J, NY.no, hM, Nat.le_refl _, hturn, htake, fun N pre x post W1 hx hB hN hY hJ => hy N pre x post W1 hx (hB.mono fun b h => h.resolve_right fun h => h) hN hY hJ⟩
 refine callsIn_of_wp_marks hf hb O ?_ U
 have hv' : FitsT w (zc (fun b => (M b ∨ False) ∨ False) (fun _ => none)) (G.lit (.func (.yield l) #[] #[]) :: caps) ((Value.func (.yield l) #[] #[]) :: vs) :=
  ⟨rfl, hv.mono (fun _ _ _ => rfl) (by rintro b _ (h | ⟨_, _, h, _⟩); exact (h.resolve_right id).resolve_right id; cases h)⟩
 have ha : IRel E C ⟨fn.ntmps, qdq (G.lit (.func (.yield l) #[] #[]) :: caps), []⟩ ([], false) { tmps := (#[Value.func (.yield l) #[] #[]] ++ vs.toArray) ++ Array.replicate (fn.ntmps - (#[Value.func (.yield l) #[] #[]] ++ vs.toArray).size) undef, defers := [] } w := by
  refine ⟨NY.no, w, h0, (fun _ h => h.elim), BelowX.refl _ w, ⟨.nil, fun _ h => by cases h⟩, ⟨fun _ => U, ?_, fun _ => none, ⟨BelowX.refl _ w, (fun b h => hM b ((h.resolve_right id).resolve_right id)), ?_, ?_, ?_, ?_, (fun id x h => by rw [hbw] at h; cases h), ⟨(fun b h => absurd h (qao hbw)), Nat.le_trans (Nat.le_of_eq hnb) (Nat.zero_le _)⟩, ?_⟩, Marks.nil, ?_⟩, (fun _ h => h), fun _ h => h.elim⟩
  ·simp; omega
  ·intro g vs hg;have := hgl g vs hg
   have hiff : ∀ b, zc (fun b => (M b ∨ False) ∨ False) (fun _ => none) b → M b := by rintro b (h | ⟨_, _, h, _⟩); exact (h.resolve_right id).resolve_right id; cases h
   exact ⟨⟨fun h => this.1.1 (hiff _ h), this.1.2⟩, this.2.mono (fun _ _ _ => U) (fun b _ h => hiff b h) this.1.1⟩
  ·intro _ _ h; cases h
  ·intro _ _ h; cases h
  ·intro _ _ _ _ h; cases h
  ·intro _ _ h; cases h
  ·intro i;have := qc3 (ρ := fun _ => none) (fn.ntmps - (vs.length + 1)) hv' i;show TRel _ _ _ (qdq _ i) _;rw [Array.getD_eq_getD_getElem?];rw [show ((#[Value.func (.yield l) #[] #[]] ++ vs.toArray) ++ Array.replicate (fn.ntmps - (#[Value.func (.yield l) #[] #[]] ++ vs.toArray).size) undef) = ((Value.func (.yield l) #[] #[] :: vs) ++ List.replicate (fn.ntmps - (vs.length + 1)) undef).toArray by simp [Nat.add_comm]];rw [List.getElem?_toArray];exact this
 have hw := h l C _ w ha;rw [hF] at hw;refine wpIn_mono hw ?_;rintro e a' w' ⟨s', p', ⟨N, W1, k1, k2, k3, k4, k5, k6⟩, hq⟩;obtain ⟨ρ, hm, _, _⟩ := k5.ex;have hg : Grow W1 w' := hm.below.grow (fun _ => w7 hbw)
 have hk : qxs N.n a'.defers w' := ⟨k4.1, fun d hd => by
  obtain ⟨D, q1, q2, q3⟩ := k4.2 d hd
  exact ⟨D, q1, q2, (hg.block D (k2 D q2).2).trans q3⟩⟩
 have hlo : ∀ b, N.y b → w.heap.size ≤ b ∧ b < w'.heap.size := fun b hb => ⟨(k6.2 b hb).1.1.1, Nat.lt_of_lt_of_le (k6.2 b hb).1.1.2 hg.size⟩
 have fin : (p'.2 = true ∨ p'.1 = xs) → LeavesInM Fence.wide 0 E.P fn a'.tmps (fun e w'' => (∃ v, e = .returned v) ∧ ∃ Y, (∀ b, Y b → w.heap.size ≤ b ∧ b < w''.heap.size) ∧ (J ⟨fun _ => False, Y⟩ xs false w'' ∨ ∃ pre, J ⟨fun _ => False, Y⟩ pre true w'')) a'.defers .returning w' := by
  intro hq;have hJ : J N p'.1 p'.2 w' := hturn _ _ _ _ _ k1 (fun b hb => (k6.2 b hb).1.2) (BelowX.of_grow hg);refine qxt (P := E.P) (fn := fn) (tmps := a'.tmps) (N := N.n) (J := fun W => J N p'.1 p'.2 W ∧ w'.heap.size ≤ W.heap.size) (fun W hj => ?_) (fun w => results_none hres _ _ w) (fun W D o hN hj => ⟨hturn _ _ _ _ _ hj.1 (fun b hb => (k6.2 b hb).1.2) (wm _ _ _ hN), by rw [vx]; exact hj.2⟩) a'.defers w' hk ⟨hJ, Nat.le_refl _⟩;refine ⟨N.y, fun b hb => ⟨(hlo b hb).1, Nat.lt_of_lt_of_le (hlo b hb).2 hj.2⟩, ?_⟩;have hj := htake _ (fun _ => False) _ _ _ hj.1 (fun _ h => h.elim);obtain ⟨pre, st⟩ := p'
  cases st with
  | true => exact .inr ⟨pre, hj⟩
  | false =>
   rcases hq with h | h
   ·cases h
   ·rw [show pre = xs from h] at hj; exact .inl hj
 cases e with
 | ret => exact fin hq
 | normal => exact fin hq
 | _ => exact hq.elim
end
section
variable {α : Type} {E : Env} {l : Nat} {enc : α → Value} {xs : List α} {C : ItC E.P l enc xs} {Q : Exit → ASt → List α × Bool → Prop}
def Env.rin (E : Env) (lp : Nat) : Env := ⟨E.P, E.gl, E.orders, [], some lp, false, 0⟩
theorem Con.rin {f : FuncId} {args : List G} {r : G} {lp : Nat} (h : Con E f args r) : Con (E.rin lp) f args r := h
def q2q (p1 : List α) : Exit → ASt → List α × Bool → Prop
 | .normal, _, p => p = (p1, false)
 | .ret, _, p => p.2 = true
 | _, _, _ => False
theorem qeb {W : World} {M : Nat → Prop} {n : Nat} {t : Nat → TV} {tmps : Array Value} (hbw : E.bow = []) (hnb : E.nb ≤ W.heap.size) (hM : ∀ b, M b → b < W.heap.size) (hgl : GlOk E W M) (hs : tmps.size = n) (ht : ∀ i, TRel W M (fun _ => none) (t i) (tmps.getD i undef)) : ARel E W M ⟨n, t, []⟩ ⟨tmps, []⟩ W := by
 have how : zc M (fun _ => none) = M := by
  funext b
  exact propext ⟨(by rintro (h | ⟨_, _, h, _⟩); exact h; cases h), fun h => .inl h⟩
 refine ⟨fun _ => U, hs, fun _ => none, ⟨BelowX.refl _ W, hM, by rw [how]; exact hgl, (fun _ _ h => by cases h), (fun _ _ h => by cases h), (fun _ _ _ _ h => by cases h), (fun id x h => by rw [hbw] at h; cases h), ⟨(fun b h => absurd h (qao hbw)), hnb⟩, fun id blk hb => by cases hb⟩, Marks.nil, fun i => ?_⟩;rw [how];exact ht i
theorem qjr {W1 W : World} {M : Nat → Prop} {n : Nat} {t : Nat → TV} {tmps : Array Value} (hbw : E.bow = []) (h : ARel E W1 M ⟨n, t, []⟩ ⟨tmps, []⟩ W) : Grow W1 W ∧ GlOk E W M ∧ tmps.size = n ∧ ∀ i, TRel W M (fun _ => none) (t i) (tmps.getD i undef) := by
 obtain ⟨ρ, hm, _, ht⟩ := h.ex
 have hρ : ρ = fun _ => none := by
  funext id
  cases hq : ρ id with
  | none => rfl
  | some x =>
   obtain ⟨blk, hb⟩ := hm.dom id x hq
   cases hb
 subst hρ
 have how : zc M (fun _ => none) = M := by
  funext b
  exact propext ⟨(by rintro (h | ⟨_, _, h, _⟩); exact h; cases h), fun h => .inl h⟩
 have hgl := hm.glob;rw [how] at ht hgl;exact ⟨hm.below.grow (fun _ => w7 hbw), hgl, h.size, ht⟩
theorem qqk {β : Type} {gop : Operand} {p : Tmp} {assign body : Code} {n : Nat} {t : Nat → TV} {gf : FuncId} {caps : List G} {encb : β → Value} {ys : List β} (f : List β → List α) (gx : β → G) (t1 : β → Nat → TV)
  (hk : zf E.P gf) (hp : p < n) (hg : ASt.eval E ⟨n, t, []⟩ gop = .g (.fn (.func gf) [] caps)) (hseq : SeqN E gf caps encb ys) (hgx : ∀ y w M, (gx y).p w M (encb y))
  (hassign : ∀ y pre lp (C' : ItC E.P l enc xs), IWp (E.rin lp) C' assign (fun e s' p' => e = .normal ∧ s' = ⟨n, t1 y, []⟩ ∧ p' = pre) ⟨n, upd p (.g (gx y)) t, []⟩ pre)
  (hbody : ∀ q y post, ys = q ++ y :: post → ∀ lp (C' : ItC E.P l enc xs), IWp (E.rin lp) C' body (q2q (f (q ++ [y]))) ⟨n, t1 y, []⟩ (f q, false))
  (hdone : Q .normal ⟨n, t, []⟩ (f ys, false)) (hstop : ∀ pre, Q .ret ⟨n, t, []⟩ (pre, true)) (hbw : E.bow = [] := by rfl) (hmk : E.mks = false := by rfl) (hrn : E.rnd = none := by rfl) (hnb : E.nb = 0 := by rfl) :
  IWp E C (.rangeFunc gop #[p] assign body) Q ⟨n, t, []⟩ (f [], false) := by
 rintro a w ⟨N, W1, k1, k2, k3, k4, k5, k6⟩
 have hF : E.F = Fence.wide := by unfold Env.F; rw [hrn]; rfl
 obtain ⟨hgw, hglob, hsize, ht⟩ := qjr hbw k5;have hMN : ∀ b, (C.M b ∨ N.n b) ∨ N.y b → b < w.heap.size := fun b hb => hb.elim (fun hb => hb.elim (fun hb => Nat.lt_of_lt_of_le (C.hM b hb) (Nat.le_trans C.hlo (Nat.le_trans k3.size hgw.size))) (fun hb => Nat.lt_of_lt_of_le (k2 b hb).2 hgw.size)) (fun hb => Nat.lt_of_lt_of_le (k6.2 b hb).1.1.2 hgw.size)
 obtain ⟨fs, cs, hge, hfs, hcs⟩ : (G.fn (.func gf) [] caps).p w (fun b => (C.M b ∨ N.n b) ∨ N.y b) (a.eval gop) := by
  have h0 := qeb hbw (Nat.le_trans (Nat.le_of_eq hnb) (Nat.zero_le _)) hMN hglob hsize ht;obtain ⟨ρ, hm, hx⟩ := h0.rel;have := hx gop;rw [hg] at this;exact G.mono _ this (fun _ _ _ => U) (fun b _ h => .inl h)
 obtain rfl : fs = [] := by cases fs with
  | nil => rfl
  | cons => exact hfs.elim
 obtain ⟨fng, g1, g2, g3⟩ := hk;refine wpIn_rangeFunc ?_;intro fn _;obtain ⟨rec, hrec⟩ : ∃ rec : LoopState → Option Code → Loop, rec = fun st pe => { state := st, pending := pe, fn, tmps := a.tmps, params := #[p], assign, body, defers := w.heap.size } := ⟨_, rfl⟩;obtain ⟨w2, hw2⟩ : ∃ w2, (w.alloc (.deferred (some []))).alloc (.loop (rec .ready none)) = w2 := ⟨_, rfl⟩
 have hgr : Grow w w2 := by rw [← hw2]; exact (Grow.alloc w _).trans (Grow.alloc _ _)
 have hsz : w2.heap.size = w.heap.size + 2 := by rw [← hw2]; simp
 have hL : w2.heap[w.heap.size + 1]? = some (.loop (rec .ready none)) := by
  rw [← hw2]; have := World.alloc_heap_new (w.alloc (.deferred (some []))) (.loop (rec .ready none)); rwa [World.size_alloc] at this
 have hD : w2.heap[w.heap.size]? = some (.deferred (some [])) := by
  rw [← hw2]; exact (RowKit.Below.heap_alloc _ _ _ (by simp)).trans (World.alloc_heap_new w _)
 have hrun : (Instr.enterLoop fn a.tmps #[p] assign body E.F.round).run E.P w = .ok (w.heap.size + 1, [{ target := .collected w.heap.size, args := #[] }]) w2 := by
  rw [← hw2, hrec, hF]; exact run_enterLoop_outer _ _ _ _ _
 clear hw2;generalize hDD : w.heap.size = D at *;generalize hlpp : D + 1 = lp at *;have hCw : C.w.heap.size ≤ w.heap.size := Nat.le_trans k3.size hgw.size;have hCwl := C.hlo
 have hMw : ∀ b, C.M b → b < w.heap.size := fun b hb => by have := C.hM b hb; omega
 have hyw : ∀ b, N.y b → b < w.heap.size := fun b hb => by have := hMN b (.inr hb); omega
 let L : Nat → Prop := fun b => (C.M b ∨ N.y b) ∨ b = lp
 have hML : ∀ b, C.M b → L b := fun b h => .inl (.inl h)
 let N2 : Nat → Prop := fun b => N.n b ∨ b = D ∨ b = lp
 let Mi : Nat → Prop := fun b => (C.M b ∨ N2 b) ∨ N.y b
 have hMi : ∀ b, Mi b → b < w2.heap.size := by
  rintro b ((h | h | h | h) | h)
  ·have := hMw b h; omega
  ·have := hMN b (.inl (.inr h)); omega
  ·omega
  ·omega
  ·have := hyw b h; omega
 have hMiSub : ∀ b, b < w.heap.size → Mi b → (C.M b ∨ N.n b) ∨ N.y b := by
  rintro b hb ((h | h | h | h) | h)
  ·exact .inl (.inl h)
  ·exact .inl (.inr h)
  ·omega
  ·omega
  ·exact .inr h
 have hgl2 : GlOk E w2 Mi := fun g vs hgv => by
  obtain ⟨⟨g1, g2⟩, g3⟩ := hglob g vs hgv;exact ⟨⟨fun h => g1 (hMiSub g g2 h), by omega⟩, g3.mono hgr.hh hMiSub g1⟩
 have hN2 : ∀ b, N2 b → C.lo ≤ b ∧ b < w2.heap.size := by
  rintro b (h | h | h)
  ·have h1 := k2 b h; have := hgw.size; exact ⟨h1.1, by omega⟩
  ·omega
  ·omega
 have hN2M : ∀ b, N2 b → ¬ C.M b := fun b h1 h2 => by have := C.hM b h2; have := (hN2 b h1).1; omega
 have hyN2 : ∀ b, N.y b → ¬ N2 b := by
  rintro b hb (h | h | h)
  ·exact (k6.2 b hb).1.2 h
  ·have := hyw b hb; omega
  ·have := hyw b hb; omega
 have hJ2 : C.J ⟨N2, N.y⟩ (f []) false w2 :=
  C.turn ⟨N2, N.y⟩ _ _ _ _ (C.take _ N2 _ _ _ (C.turn _ _ _ _ _ k1 (fun b hb => (k6.2 b hb).1.2) (BelowX.of_grow hgw)) (fun b hb => by
   rcases hb with h | h | h
   ·exact .inl h
   ·exact .inr (by omega)
   ·exact .inr (by omega))) hyN2 (BelowX.of_grow hgr)
 have hlpM : ¬ C.M lp := hN2M lp (.inr (.inr rfl));have hDM : ¬ C.M D := hN2M D (.inr (.inl rfl));have hB2 : BelowX (fun b => C.M b ∨ C.N0.y b) C.w w2 := (k3.trans (BelowX.of_grow hgw)).trans (BelowX.of_grow hgr)
 have hBC : ∀ W, BelowX L w2 W → BelowX (fun b => C.M b ∨ C.N0.y b) C.w W := fun W h => ⟨h.os.trans hB2.os, h.tape.trans hB2.tape, h.output.trans hB2.output, Nat.le_trans hB2.size h.size, fun k hk hl =>
  (h.block k (Nat.lt_of_lt_of_le hk hB2.size) (by
   rintro ((h | h) | h)
   ·exact hl (.inl h)
   ·exact (k6.2 k h).2.elim (fun h => hl (.inr h)) (by omega)
   ·omega)).trans (hB2.block k hk hl)⟩
 have hhw : ∀ W, BelowX L w2 W → ∀ b, b < w.heap.size → ¬ (C.M b ∨ N.y b) → W.heap[b]? = w.heap[b]? := fun W h b hb hno =>
  (h.block b (by omega) (by rintro (h | h); exact hno h; omega)).trans (hgr.block b hb)
 have hglW : ∀ W (Z : Nat → Prop), BelowX L w2 W → (∀ b, b < w.heap.size → Z b → (C.M b ∨ N.n b) ∨ N.y b) → GlOk E W Z := fun W Z h hZ g vs hgv => by
  obtain ⟨⟨g1, g2⟩, g3⟩ := hglob g vs hgv;exact ⟨⟨fun k => g1 (hZ g g2 k), by have := h.size; omega⟩, g3.mono (fun b hb hno => hhw W h b hb fun k => hno (k.elim (fun k => .inl (.inl k)) .inr)) hZ g1⟩
 have htW : ∀ W (Z : Nat → Prop), BelowX L w2 W → (∀ b, b < w.heap.size → Z b → (C.M b ∨ N.n b) ∨ N.y b) → ∀ i, TRel W Z (fun _ => none) (t i) (a.tmps.getD i undef) := fun W Z h hZ i =>
  (ht i).mono none (by cases ASt.get ⟨n, t, []⟩ i <;> rfl) (fun b hb hno => hhw W h b hb fun k => hno (k.elim (fun k => .inl (.inl k)) .inr)) hZ (fun _ _ _ => rfl)
 have hN2s : ∀ b, b < w.heap.size → N2 b → N.n b := by
  rintro b hb (h | h | h)
  ·exact h
  ·omega
  ·omega
 have hZ2 : ∀ (Ni Y : Nat → Prop), (∀ b, Ni b → w2.heap.size ≤ b) → (∀ b, Y b → N.y b ∨ w2.heap.size ≤ b) → ∀ b, b < w.heap.size → ((C.M b ∨ (N2 b ∨ Ni b)) ∨ Y b) → (C.M b ∨ N.n b) ∨ N.y b := by
  rintro Ni Y hNi hY b hb ((h | h | h) | h)
  ·exact .inl (.inl h)
  ·exact .inl (.inr (hN2s b hb h))
  ·have := hNi b h; omega
  ·exact .inr ((hY b h).resolve_right (by omega))
 -- behind the loop
 have back : ∀ W' st pe pre stp (Ni Y : Nat → Prop), C.J ⟨fun b => N2 b ∨ Ni b, Y⟩ pre stp W' → (∀ b, Ni b → w2.heap.size ≤ b) → (∀ b, Y b → (b < W'.heap.size ∧ ¬ (N2 b ∨ Ni b)) ∧ (N.y b ∨ w2.heap.size ≤ b)) → BelowX L w2 W' → W'.heap[D]? = some (.deferred (some [])) →
   IRel E C ⟨n, t, []⟩ (pre, stp) { a with defers := { target := .collected D, args := #[] } :: a.defers } (W'.putObj lp (.loop { rec st pe with state := .exhausted })) := by
  intro W' st pe pre stp Ni Y hJ hNi hY hB hd;have hB' : BelowX L w2 (W'.putObj lp (.loop { rec st pe with state := .exhausted })) := hB.trans (wm _ _ _ (.inr rfl))
  have hJ' : C.J ⟨N2, Y⟩ pre stp (W'.putObj lp (.loop { rec st pe with state := .exhausted })) :=
   C.turn ⟨N2, Y⟩ _ _ _ _ (C.take _ N2 _ _ _ hJ (fun b h => .inl (.inl h))) (fun b hb hn => (hY b hb).1.2 (.inl hn)) (wm _ _ _ (.inr (.inr rfl)))
  have hlow := hB'.size;have hZ : ∀ b, b < w.heap.size → ((C.M b ∨ N2 b) ∨ Y b) → (C.M b ∨ N.n b) ∨ N.y b := fun b hb h => hZ2 Ni Y hNi (fun b hb => (hY b hb).2) b hb (h.imp (Or.imp id .inl) id)
  have hYlo : ∀ b, Y b → C.lo ≤ b ∧ (C.N0.y b ∨ C.w.heap.size ≤ b) := fun b hb => by
   rcases (hY b hb).2 with h | h
   ·exact ⟨(k6.2 b h).1.1.1, (k6.2 b h).2⟩
   ·exact ⟨by omega, .inr (by omega)⟩
  refine ⟨⟨N2, Y⟩, _, hJ', fun b hb => ⟨(hN2 b hb).1, Nat.lt_of_lt_of_le (hN2 b hb).2 hB'.size⟩, hBC _ hB', ?_, qeb hbw (Nat.le_trans (Nat.le_of_eq hnb) (Nat.zero_le _)) (fun b hb => ?_) (hglW _ _ hB' hZ) hsize (htW _ _ hB' hZ), (fun b hb => .inl (k6.1 b hb)), fun b hb => ⟨⟨⟨(hYlo b hb).1, by rw [vx]; exact (hY b hb).1.1⟩, fun hn => (hY b hb).1.2 (.inl hn)⟩, (hYlo b hb).2⟩⟩
  ·refine ⟨List.nodup_cons.2 ⟨fun hq => ?_, k4.1⟩, fun d hd' => ?_⟩
   ·obtain ⟨D', q1, q2, q3⟩ := k4.2 _ hq;simp only [Deferred.mk.injEq, Target.collected.injEq, and_true] at q1;have := (k2 D' q2).2; have := hgw.size; omega
   rcases List.mem_cons.1 hd' with rfl | hd'
   ·exact ⟨D, U, .inr (.inl U), (World.putObj_heap_other (by omega)).trans hd⟩
   ·obtain ⟨D', q1, q2, q3⟩ := k4.2 _ hd';have h1 := (k2 D' q2).2;have h2 := hgw.size;refine ⟨D', q1, .inl q2, (World.putObj_heap_other (by omega)).trans ((hhw _ hB D' (by omega) fun h => h.elim (fun h => hN2M D' (.inl q2) h) fun h => (k6.2 D' h).1.2 q2).trans ((hgw.block D' h1).trans q3))⟩
  ·rcases hb with (hb | hb) | hb
   ·have := hMw b hb; omega
   ·have := (hN2 b hb).2; omega
   ·rw [vx]; exact (hY b hb).1.1
 refine ⟨lp, [{ target := .collected D, args := #[] }], w2, { target := .fn (.func gf) cs.toArray, args := #[.func (.yield lp) #[] #[]] }, w2, gf,
  #[.func (.yield lp) #[] #[]] ++ cs.toArray, w2, hrun, ?_, fun _ _ => trivial, ?_, qj8, ?_⟩
 ·simp only [resolve, hge]
  simp [go_sem]
 ·simp [invoke, go_sem, kp g1 g2 g3]
 rw [hF]
 let Ji : NY → List β → Bool → World → Prop := fun Ni q st W => (∃ pre Y, (st = false → pre = f q) ∧ (∀ b, Y b → (N.y b ∨ Ni.y b) ∧ b < W.heap.size) ∧ C.J ⟨fun b => N2 b ∨ Ni.n b, Y⟩ pre st W) ∧ BelowX L w2 W ∧
  W.heap[lp]? = some (.loop (rec (if st = true then .done else .ready) (if st = true then some .ret else none))) ∧ W.heap[D]? = some (.deferred (some [])) ∧ (∀ b, Ni.n b → w2.heap.size ≤ b) ∧ ∀ b, Ni.y b → w2.heap.size ≤ b
 have hYd : ∀ (Ni : NY) (Y : Nat → Prop), (∀ b, Ni.n b → w2.heap.size ≤ b) → (∀ b, Ni.y b → w2.heap.size ≤ b) → (∀ b, Ni.y b → ¬ Ni.n b) → (∀ b, Y b → N.y b ∨ Ni.y b) → ∀ b, Y b → ¬ (N2 b ∨ Ni.n b) := by
  rintro Ni Y h1 h2 h3 h4 b hb (h | h)
  ·rcases h4 b hb with k | k
   ·exact hyN2 b k h
   ·have := h2 b k; have := (hN2 b h).2; omega
  ·rcases h4 b hb with k | k
   ·have := hyw b k; have := h1 b h; omega
   ·exact h3 b k h
 refine (hseq w2 Mi cs lp Ji hMi hgl2 (hcs.mono hgr.hh hMiSub) ?_ ?_ ?_ ?_).mono ?_
 ·rintro Ni q st W W' ⟨⟨pre, Y, hp, hY, hJ⟩, j1, j3, j4, j5, j6⟩ hdis hB;refine ⟨⟨pre, Y, hp, fun b hb => ⟨(hY b hb).1, Nat.lt_of_lt_of_le (hY b hb).2 hB.size⟩, C.turn ⟨fun b => N2 b ∨ Ni.n b, Y⟩ _ _ _ _ hJ (hYd Ni Y j5 j6 hdis fun b hb => (hY b hb).1) (hB.mono fun b h => .inr h)⟩, ⟨hB.os.trans j1.os, hB.tape.trans j1.tape, hB.output.trans j1.output, Nat.le_trans j1.size hB.size, fun k hk hl => ?_⟩, ?_, ?_, j5, j6⟩
  ·exact (hB.block k (Nat.lt_of_lt_of_le hk j1.size) (fun h => by have := j5 k h; omega)).trans (j1.block k hk hl)
  ·exact (hB.block lp (Array.getElem?_eq_some_iff.1 j3).1 (fun h => by have := j5 lp h; omega)).trans j3
  ·exact (hB.block D (Array.getElem?_eq_some_iff.1 j4).1 (fun h => by have := j5 D h; omega)).trans j4
 ·rintro Ni Ni' q st W ⟨⟨pre, Y, hp, hY, hJ⟩, j1, j3, j4, j5, j6⟩ hN;refine ⟨⟨pre, Y, hp, hY, C.take ⟨fun b => N2 b ∨ Ni.n b, Y⟩ (fun b => N2 b ∨ Ni' b) _ _ _ hJ fun b hb => ?_⟩, j1, j3, j4, fun b hb => ?_, j6⟩
  ·rcases hb with h | h
   ·exact .inl (.inl h)
   ·exact (hN b h).imp .inr id
  ·rcases hN b hb with h | h
   ·exact j5 b h
   ·exact Nat.le_trans j1.size h
 ·-- ONE ROUND
  rintro Ni q y post Wr hys _ hNi hYi ⟨⟨pre, Y, hpre, hYs, hJ⟩, j1, j3, j4, j5, j6⟩;obtain rfl := hpre rfl;have hlpW1 : lp < Wr.heap.size := (Array.getElem?_eq_some_iff.1 j3).1;simp only [Bool.false_eq_true, if_false] at j3;have hy := run_yield (P := E.P) (args := #[encb y]) j3 (by rw [hrec]; rfl);refine ⟨_, _, _, _, hy, roundIn_of_wpIn O ?_⟩;clear hy
  have hfold : (((rec .ready none).params.zip #[encb y]).foldl (fun tmps (t, a) => tmps.setIfInBounds t a) (rec .ready none).tmps) = (a.put (some p) (encb y)).tmps := by rw [hrec]; simp [Act.put]
  have has : (rec .ready none).assign = assign := by rw [hrec]
  have hbo : (rec .ready none).body = body := by rw [hrec]
  rw [hfold, has, hbo]
  let NN : Nat → Prop := fun b => N2 b ∨ Ni.n b
  have hNN : ∀ b, NN b → C.lo ≤ b ∧ b < Wr.heap.size := by
   rintro b (h | h)
   ·exact ⟨(hN2 b h).1, Nat.lt_of_lt_of_le (hN2 b h).2 j1.size⟩
   ·exact ⟨by have := (hNi b h).1; omega, (hNi b h).2⟩
  have hNM : ∀ b, NN b → ¬ C.M b := fun b h1 h2 => by have := C.hM b h2; have := (hNN b h1).1; omega
  have hYN : ∀ b, Y b → ¬ NN b := hYd Ni Y j5 j6 (fun b hb => (hYi b hb).2) fun b hb => (hYs b hb).1;have hYw : ∀ b, Y b → N.y b ∨ w2.heap.size ≤ b := fun b hb => (hYs b hb).1.imp id fun h => j6 b h
  have hYlo : ∀ b, Y b → C.lo ≤ b ∧ (C.N0.y b ∨ C.w.heap.size ≤ b) := fun b hb => by
   rcases hYw b hb with h | h
   ·exact ⟨(k6.2 b h).1.1.1, (k6.2 b h).2⟩
   ·exact ⟨by omega, .inr (by omega)⟩
  have hthr : ∀ W, BelowX (fun b => (C.M b ∨ Y b) ∨ b = lp) Wr W → BelowX L w2 W := fun W h => ⟨h.os.trans j1.os, h.tape.trans j1.tape, h.output.trans j1.output, Nat.le_trans j1.size h.size, fun k hk hl =>
   (h.block k (Nat.lt_of_lt_of_le hk j1.size) (by
    rintro ((h | h) | h)
    ·exact hl (.inl (.inl h))
    ·exact (hYw k h).elim (fun h => hl (.inl (.inr h))) (by omega)
    ·exact hl (.inr h))).trans (j1.block k hk hl)⟩
  have hZr : ∀ b, b < w.heap.size → ((C.M b ∨ NN b) ∨ Y b) → (C.M b ∨ N.n b) ∨ N.y b := hZ2 Ni.n Y j5 hYw
  have ha1 : IRel (E.rin lp) (C.at Wr (hBC Wr j1) ⟨NN, Y⟩ fun b hb => (hYlo b hb).2) ⟨n, upd p (.g (gx y)) t, []⟩ (f q, false) { tmps := (a.put (some p) (encb y)).tmps, defers := [] } Wr := by
   refine ⟨⟨NN, Y⟩, Wr, hJ, hNN, BelowX.refl _ _, ⟨.nil, fun _ h => by cases h⟩, qeb (E := E.rin lp) U (Nat.zero_le _) (fun b hb => ?_) (hglW Wr _ j1 hZr) (by rw [qj7]; exact hsize) (fun i => ?_), (fun b h => h), fun b hb => ⟨⟨⟨(hYlo b hb).1, (hYs b hb).2⟩, hYN b hb⟩, .inl hb⟩⟩
   ·rcases hb with (hb | hb) | hb
    ·have := hMw b hb; have := j1.size; omega
    ·exact (hNN b hb).2
    ·exact (hYs b hb).2
   rw [qj6 a (some p) (encb y) (fun d h => by cases h; rw [hsize]; exact hp), qvr]
   by_cases hpi : p = i
   ·rw [if_pos hpi, if_pos (by rw [hpi])]; exact hgx y _ _
   ·rw [if_neg hpi, if_neg (fun h => hpi (by cases h; rfl))]; exact htW Wr _ j1 hZr i
  refine wpIn_mono (hassign y (f q, false) lp (C.at Wr (hBC Wr j1) ⟨NN, Y⟩ fun b hb => (hYlo b hb).2) _ Wr ha1) ?_;rintro e a1 Wa ⟨s', p', ⟨Na, Wa1, n1, n2, n3, n4, n5, n6, n7⟩, rfl, rfl, rfl⟩;obtain ⟨hga, hgla, hsa, hta⟩ := qjr (E := E.rin lp) rfl n5;have n3 : BelowX (fun b => C.M b ∨ Y b) Wr Wa1 := n3;have n6 : ∀ b, NN b → Na.n b := n6;have n7 : ∀ b, Na.y b → ((C.lo ≤ b ∧ b < Wa1.heap.size) ∧ ¬ Na.n b) ∧ (Y b ∨ Wr.heap.size ≤ b) := n7;have hNay : ∀ b, Na.y b → ¬ Na.n b := fun b hb => (n7 b hb).1.2;have hBa : BelowX (fun b => C.M b ∨ Y b) Wr Wa := n3.trans (BelowX.of_grow hga);have hlpN : NN lp := .inl (.inr (.inr rfl));have hDN : NN D := .inl (.inr (.inl rfl));have e3 : Wa.heap[lp]? = some (.loop (rec .ready none)) := (hBa.block lp hlpW1 (fun h => h.elim hlpM fun h => hYN lp h hlpN)).trans j3;have e4 : Wa.heap[D]? = some (.deferred (some [])) := (hBa.block D (by omega) (fun h => h.elim hDM fun h => hYN D h hDN)).trans j4;refine ⟨_, run_beginRound e3 (by rw [hrec]), ?_⟩;have hlpWa : lp < Wa.heap.size := Nat.lt_of_lt_of_le hlpW1 hBa.size;generalize hWb : Wa.putObj lp (.loop { rec .ready none with state := .busy }) = Wb
  have hput : BelowX (fun b => (C.M b ∨ Y b) ∨ b = lp) Wa Wb := by rw [← hWb]; exact wm _ _ _ (.inr rfl)
  have hb3 : Wb.heap[lp]? = some (.loop { rec .ready none with state := .busy }) := by rw [← hWb]; exact World.putObj_heap_same hlpWa
  have hb4 : Wb.heap[D]? = some (.deferred (some [])) := by rw [← hWb]; exact (World.putObj_heap_other (by omega)).trans e4
  have hbo : ∀ b, b ≠ lp → Wb.heap[b]? = Wa.heap[b]? := fun b h => by rw [← hWb]; exact World.putObj_heap_other h
  have hbs : Wb.heap.size = Wa.heap.size := by rw [← hWb]; exact vx _ _ _
  have hBr : BelowX (fun b => (C.M b ∨ Y b) ∨ b = lp) Wr Wb := (hBa.mono fun b h => .inl h).trans hput;have hBb : BelowX L w2 Wb := hthr Wb hBr;have hlpNa : Na.n lp := n6 lp hlpN;have hJb : C.J Na (f q) false Wb := C.turn _ _ _ _ _ (C.turn _ _ _ _ _ n1 hNay (BelowX.of_grow hga)) hNay (by rw [← hWb]; exact wm _ _ _ hlpNa);have hNa : ∀ b, Na.n b → C.lo ≤ b ∧ b < Wb.heap.size := fun b hb => ⟨(n2 b hb).1, by rw [hbs]; exact Nat.lt_of_lt_of_le (n2 b hb).2 hga.size⟩;have hNaY : ∀ b, Na.y b → C.lo ≤ b ∧ b < Wb.heap.size := fun b hb => ⟨(n7 b hb).1.1.1, by rw [hbs]; exact Nat.lt_of_lt_of_le (n7 b hb).1.1.2 hga.size⟩;have hNaC : ∀ b, Na.y b → C.N0.y b ∨ C.w.heap.size ≤ b := fun b hb => (n7 b hb).2.elim (fun h => (hYlo b h).2) fun h => .inr (by have := j1.size; omega)
  have ha2 : IRel (E.rin lp) (C.at Wb (hBC Wb hBb) ⟨NN, Na.y⟩ hNaC) ⟨n, t1 y, []⟩ (f q, false) a1 Wb := by
   refine ⟨Na, Wb, hJb, hNa, BelowX.refl _ _, ⟨n4.1, fun d hd => ?_⟩, qeb (E := E.rin lp) U (Nat.zero_le _) (fun b hb => ?_) ?_ hsa (fun i => ?_), n6, fun b hb => ⟨⟨hNaY b hb, hNay b hb⟩, .inl hb⟩⟩
   ·obtain ⟨D', q1, q2, q3⟩ := n4.2 d hd;have h1 := (n2 D' q2).2;have h3 : Wa.heap[D']? = some (.deferred (some [])) := (hga.block D' h1).trans q3;refine ⟨D', q1, q2, (hbo D' fun h => ?_).trans h3⟩;rw [h, e3] at h3; cases h3
   ·rcases hb with (hb | hb) | hb
    ·have := hMw b hb; have := hBb.size; omega
    ·exact (hNa b hb).2
    ·exact (hNaY b hb).2
   ·exact GlOk.grow (E := E) hgla (by rw [hbs]; exact Nat.le_refl _) fun b _ hno => hbo b fun h => hno (.inl (.inr (by rw [h]; exact hlpNa)))
   ·exact (hta i).mono none (by cases ASt.get ⟨n, t1 y, []⟩ i <;> rfl) (fun b _ hno => hbo b fun h => hno (.inl (.inr (by rw [h]; exact hlpNa)))) (fun _ _ h => h) (fun _ _ _ => U)
  refine wpIn_mono (hbody q y post hys lp (C.at Wb (hBC Wb hBb) ⟨NN, Na.y⟩ hNaC) a1 Wb ha2) ?_;rintro e2 a2 W3 ⟨s3, p3, ⟨N3, W4, m1, m2, m3, m4, m5, m6, m7⟩, hq⟩;have m3 : BelowX (fun b => C.M b ∨ Na.y b) Wb W4 := m3;have m6 : ∀ b, NN b → N3.n b := m6;have m7 : ∀ b, N3.y b → ((C.lo ≤ b ∧ b < W4.heap.size) ∧ ¬ N3.n b) ∧ (Na.y b ∨ Wb.heap.size ≤ b) := m7;obtain ⟨ρ3, hm3, _, _⟩ := m5.ex;have hg43 : Grow W4 W3 := hm3.below.grow (fun _ => w7 rfl);have hB3 : BelowX (fun b => C.M b ∨ Na.y b) Wb W3 := m3.trans (BelowX.of_grow hg43);have f3 : W3.heap[lp]? = some (.loop { rec .ready none with state := .busy }) := (hB3.block lp (by omega) (fun h => h.elim hlpM fun h => hNay lp h hlpNa)).trans hb3;have f4 : W3.heap[D]? = some (.deferred (some [])) := (hB3.block D (by omega) (fun h => h.elim hDM fun h => hNay D h (n6 D hDN))).trans hb4
  have b13 : BelowX (fun b => (C.M b ∨ Y b) ∨ b = lp) Wr W3 := ⟨hB3.os.trans hBr.os, hB3.tape.trans hBr.tape, hB3.output.trans hBr.output, Nat.le_trans hBr.size hB3.size, fun k hk hl =>
   (hB3.block k (Nat.lt_of_lt_of_le hk hBr.size) (by
    rintro (h | h)
    ·exact hl (.inl (.inl h))
    ·exact (n7 k h).2.elim (fun h => hl (.inl (.inr h))) (by omega))).trans (hBr.block k hk hl)⟩
  have hJ3 : C.J N3 p3.1 p3.2 W3 := C.turn _ _ _ _ _ m1 (fun b hb => (m7 b hb).1.2) (BelowX.of_grow hg43);have h3Y : ∀ b, N3.y b → Y b ∨ Wr.heap.size ≤ b := fun b hb => (m7 b hb).2.elim (fun h => (n7 b h).2) fun h => .inr (by have := hBr.size; omega);have fin : ∀ (jump : Option Code) (b : Bool), b = !jump.isNone → (jump = none ∨ jump = some .ret) → p3.2 = b → (b = false → p3.1 = f (q ++ [y])) →
    ∃ v W5, (Instr.endRound lp jump).run E.P W3 = .ok v W5 ∧ BelowX (fun b => Mi b ∨ Ni.y b) Wr W5 ∧ ∃ b, (Ending.returned v) = .returned (.bool b) ∧ ∃ Y5, (∀ b, Y5 b → (Ni.y b ∨ Wr.heap.size ≤ b) ∧ b < W5.heap.size) ∧ Ji ⟨Ni.n, Y5⟩ (q ++ [y]) (!b) W5 := by
   intro jump b hb hjump hp3 hp31;have hr := run_endRound (P := E.P) jump f3
   have hrr : ({ ({ rec .ready none with state := .busy } : Loop) with state := if jump.isNone then .ready else .done, pending := jump } : Loop) = rec (if jump.isNone then .ready else .done) jump := by rw [hrec]
   rw [hrr] at hr;have b14 : BelowX (fun b => (C.M b ∨ Y b) ∨ b = lp) Wr (W3.putObj lp (.loop (rec (if jump.isNone then .ready else .done) jump))) := b13.trans (wm _ _ _ (.inr rfl))
   have hlt5 : ∀ b, N3.y b → b < (W3.putObj lp (.loop (rec (if jump.isNone then .ready else .done) jump))).heap.size := fun b hb => by rw [vx]; exact Nat.lt_of_lt_of_le (m7 b hb).1.1.2 hg43.size
   refine ⟨_, _, hr, b14.mono ?_, jump.isNone, U, fun b => N3.y b ∧ w2.heap.size ≤ b, fun b hb' => ⟨?_, hlt5 b hb'.1⟩, ⟨p3.1, N3.y, fun h => hp31 (by rw [hb]; exact h), fun b hb' => ⟨?_, hlt5 b hb'⟩, ?_⟩, hthr _ b14, ?_, (World.putObj_heap_other (by omega)).trans f4, j5, fun b hb' => hb'.2⟩
   ·rintro k ((h | h) | h)
    ·exact .inl (.inl (.inl h))
    ·exact (hYs k h).1.elim (fun h => .inl (.inr h)) .inr
    ·exact .inl (.inl (.inr (.inr (.inr h))))
   ·rcases h3Y b hb'.1 with h | h
    ·exact .inl ((hYs b h).1.resolve_left fun h => by have := hyw b h; have := hb'.2; omega)
    ·exact .inr h
   ·by_cases hw : w2.heap.size ≤ b
    ·exact .inr ⟨hb', hw⟩
    ·rcases h3Y b hb' with h | h
     ·exact .inl ((hYs b h).1.resolve_right fun h => hw (j6 b h))
     ·have := j1.size; omega
   ·have := C.turn _ _ _ _ _ hJ3 (fun b hb => (m7 b hb).1.2) (wm (L := N3.n) W3 lp (.loop (rec (if jump.isNone then .ready else .done) jump)) (m6 lp hlpN));rw [hp3, hb] at this;exact C.take _ NN _ _ _ this fun b hb => .inl (m6 b hb)
   ·rcases hjump with rfl | rfl
    ·exact World.putObj_heap_same (Array.getElem?_eq_some_iff.1 f3).1
    ·exact World.putObj_heap_same (Array.getElem?_eq_some_iff.1 f3).1
  cases e2 with
  | normal =>
   have hq : p3 = (f (q ++ [y]), false) := hq;obtain ⟨v, W5, g1, g2, b, g3, g4⟩ := fin none false rfl (.inl rfl) (by rw [hq]) (fun _ => by rw [hq]);exact ⟨v, W5, g1, g2, b, g3, g4⟩
  | ret =>
   have hq : p3.2 = true := hq;obtain ⟨v, W5, g1, g2, b, g3, g4⟩ := fin (some .ret) true rfl (.inr rfl) hq (fun h => by cases h);exact ⟨v, W5, g1, g2, b, g3, g4⟩
  | _ => exact hq.elim
 ·-- AT THE START
  exact ⟨⟨f [], N.y, fun _ => U, fun b hb => ⟨.inl hb, by have := hyw b hb; omega⟩, C.take ⟨N2, N.y⟩ (fun b => N2 b ∨ False) _ _ _ hJ2 (fun b hb => hb.elim .inl (fun h => h.elim))⟩, BelowX.refl _ w2, hL, hD, (fun _ h => h.elim), fun _ h => h.elim⟩
 ·-- BEHIND THE ITERATOR
  have hback : ∀ (Yi Y : Nat → Prop) (W' : World), (∀ b, Yi b → w2.heap.size ≤ b) → (∀ b, Y b → (N.y b ∨ Yi b) ∧ b < W'.heap.size) → ∀ b, Y b → (b < W'.heap.size ∧ ¬ (N2 b ∨ False)) ∧ (N.y b ∨ w2.heap.size ≤ b) := fun Yi Y W' h6 hY b hb =>
   ⟨⟨(hY b hb).2, hYd ⟨fun _ => False, Yi⟩ Y (fun _ h => h.elim) h6 (fun _ _ h => h) (fun b hb => (hY b hb).1) b hb⟩, (hY b hb).1.imp id fun h => h6 b h⟩
  rintro e W' ⟨⟨v, rfl⟩, Yi, _, ⟨⟨pre, Y, hpre, hY, hJ⟩, j1, j3, j4, j5, j6⟩ | ⟨q, ⟨pre, Y, hpre, hY, hJ⟩, j1, j3, j4, j5, j6⟩⟩
  ·obtain rfl := hpre rfl;simp only [Bool.false_eq_true, if_false] at j3;refine ⟨none, _, ?_, _, _, back _ .ready none _ _ _ _ hJ (fun _ h => h.elim) (hback Yi Y W' j6 hY) j1 j4, hdone⟩;have := run_endLoop (P := E.P) j3 (by rw [hrec]; simp);rw [this, hrec]
  ·simp only [if_true] at j3;have hl := run_endLoop (P := E.P) j3 (by rw [hrec]; simp);refine ⟨some .ret, _, ?_, wpIn_ret ⟨_, _, back _ .done (some .ret) _ _ _ _ hJ (fun _ h => h.elim) (hback Yi Y W' j6 hY) j1 j4, hstop pre⟩⟩;rw [hl];subst hrec
   rfl
theorem qxu {β : Type} {gop : Operand} {p : Tmp} {assign body : Code} {n : Nat} {gf : FuncId} {caps : List G} {encb : β → Value} {s : ASt} {p0 : List α × Bool} (ys : List β) (l1 : List (Nat × TV)) (f : List β → List α) (gx : β → G) (t1 : (Nat → TV) → β → Nat → TV)
  (hn : s.n = n) (hwk : qjx s l1) (hcl : wc l1 [] = true) (hp0 : p0 = (f [], false)) (hk : zf E.P gf) (hp : Nat.blt p n = true) (hg : ASt.eval E ⟨n, xj l1, []⟩ gop = .g (.fn (.func gf) [] caps)) (hseq : SeqN E gf caps encb ys) (hgx : ∀ y w M, (gx y).p w M (encb y))
  (hassign : ∀ y pre lp (C' : ItC E.P l enc xs), IWp (E.rin lp) C' assign (fun e s' p' => e = .normal ∧ s' = ⟨n, t1 (xj l1) y, []⟩ ∧ p' = pre) ⟨n, upd p (.g (gx y)) (xj l1), []⟩ pre)
  (hbody : ∀ q y post, ys = q ++ y :: post → ∀ lp (C' : ItC E.P l enc xs), IWp (E.rin lp) C' body (q2q (f (q ++ [y]))) ⟨n, t1 (xj l1) y, []⟩ (f q, false))
  (hdone : Q .normal ⟨n, xj l1, []⟩ (f ys, false)) (hstop : ∀ pre, Q .ret ⟨n, xj l1, []⟩ (pre, true)) (hbw : E.bow = [] := by rfl) (hmk : E.mks = false := by rfl) (hrn : E.rnd = none := by rfl) (hnb : E.nb = 0 := by rfl) :
  IWp E C (.rangeFunc gop #[p] assign body) Q s p0 := by
 refine q4w (l1 := l1) (m := []) hwk O hcl ?_ hbw;subst hn;subst hp0;exact qqk f gx (t1 (xj l1)) hk (Nat.le_of_ble_eq_true hp) hg hseq hgx hassign hbody hdone hstop hbw hmk hrn hnb
end
end Go.Sim
