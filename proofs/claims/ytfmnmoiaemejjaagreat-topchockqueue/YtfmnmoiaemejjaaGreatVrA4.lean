/-
  What is proved: lemmas and contracts of functions on the way to the law topChockQueue (part 4).
-/
import Derived.Test.YtfmnmoiaemejjaaGreatVrA3
set_option linter.unusedSectionVars false
set_option linter.unusedSimpArgs false
set_option linter.unusedVariables false
set_option linter.unnecessarySimpa false
set_option linter.deprecated false
namespace Go.Sim
theorem qcr {E : Env} {o : Oper} {ev : Operand → TV} {x y : G} (h : ∀ mem, Eff E o mem ev (.g x)) (hs : GSub x y) (mem : Mem) : Eff E o mem ev (.g y) := by
 intro w0 M0 ρ w e hm he;have := h mem w0 M0 ρ w e hm he
 revert this
 generalize (execOp e o).run E.P w = r
 cases r with
 | halt a b => exact id
 | ok n w' =>
  cases n with
  | value v => exact fun ⟨g, k⟩ => ⟨g, hs _ _ _ k⟩
  | enter f args =>
   intro hh;refine Calls.mono hh ?_;rintro e w'' ⟨v, h1, h2, h3⟩;exact ⟨v, h1, h2, hs _ _ _ h3⟩
  | skip =>
   rintro ⟨g, k⟩;exact ⟨g, hs _ _ _ k⟩
  | _ => exact id
section
variable {E : Env} {w0 : World} {M0 : Nat → Prop}
theorem qmm {a : Act} {w : World} {s : ASt} {b p k : Nat} {cs : List TV} (ha : ARel E w0 M0 s a w) (hb : qr s.mem b = some (.box cs)) (hc : cs[p]? = some (.g (.lit (.slice none 0 0)))) :
  ARel E w0 M0 ⟨s.n, s.tmps, (b, .box (cs.set p (.g (G.sl k [])))) :: s.mem⟩ a w := by
 obtain ⟨ρ, hm, hmk, ht⟩ := ha.ex;obtain ⟨ow, ty, vs, g1, g2, g3, g4⟩ := hm.blk b _ hb;obtain ⟨v, h4, h5, _⟩ := TFits.get p g4 hc;have hv : v = .slice none 0 0 := h5;subst hv;obtain ⟨n1, n2⟩ := j9 (id := b) (x := some ow) (blk' := .box (cs.set p (.g (G.sl k [])))) none hm ⟨rfl, rfl, rfl, Nat.le_refl _, fun _ _ _ => rfl⟩ (fun o ho => by cases ho; exact ⟨.inr ⟨ow, g1, rfl⟩, (hm.fresh b ow g1).2⟩) (.inr ⟨rfl, .inr g1⟩) (fun _ b _ _ => z5 b) (.inl rfl)
  ⟨ow, ty, vs, qx _ _ _, g2, g3, by rw [qdn g1]; exact TFits.give (show TRel w (qz M0 ρ) ρ (.g (G.sl k [])) (.slice none 0 0) from qip k w _) p g4 h4⟩
 exact ⟨ha.defers, ha.size, _, n1, ⟨hmk.1, fun d hd => by
   obtain ⟨D, q1, q2, q3⟩ := hmk.2 d hd
   exact ⟨D, q1, q2, by rw [qdn g1]; exact q3⟩⟩, fun i => by rw [qdn g1]; exact ht i⟩
theorem qpy {c : Code} {Q : Exit → ASt → Prop} {s : ASt} (b p k : Nat) {cs : List TV} (hb : qr s.mem b = some (.box cs)) (hc : cs[p]? = some (.g (.lit (.slice none 0 0))))
  (h : AWp E w0 M0 c Q ⟨s.n, s.tmps, (b, .box (cs.set p (.g (G.sl k [])))) :: s.mem⟩) : AWp E w0 M0 c Q s := fun a w ha => h a w (qmm ha hb hc)
end
section
variable {E : Env} {w0 : World} {M0 : Nat → Prop}
theorem qsq {o : Oper} {mem : Mem} {ev : Operand → TV} {t : TypeId} {zs : List Value} {N k : Nat} {c : List G} (id : Nat) (ho : o.op = .alloc t) (hz : vu E.P t = some zs) (hz1 : zs.all Value.oneCell' = true) (hN : N ≤ maxLen)
  (hc : zs.map G.lit = (List.replicate N c).flatten) (hk : c.length = k) (hf : qr mem id = none) :
  EffW E o mem ev (.eptr id k 0 0) ((id, .arr t k (List.replicate N c)) :: mem) none := by
 intro w0 M0 ρ w e hm _;have hr0 := qbo hm hf;have hg := Grow.alloc w (.cells zs.toArray t)
 have hM : ∀ b, b < w.heap.size → qz M0 (ji ρ id (some ⟨w.heap.size, 0, N⟩)) b → qz M0 ρ b := by
  rintro b hb (h | ⟨i, o, h, rfl⟩)
  ·exact .inl h
  ·by_cases hi : i = id
   ·subst hi; rw [qx] at h; cases h; simp at hb
   ·exact .inr ⟨i, o, by simpa [ji, hi] using h, rfl⟩
 have hzf : Fits w (qz M0 ρ) (List.replicate N c).flatten zs := by rw [← hc]; exact qch (fun v hv => List.all_eq_true.1 hz1 v hv)
 have hzl : zs.length = N * k := by rw [hzf.length]; simp [hk]
 have hrun : (execOp e o).run E.P w = .ok (.value (.pointer (some ⟨w.heap.size, 0, none⟩))) (w.alloc (.cells zs.toArray t)) := by
  simp [execOp, ho, qoc hz]
 rw [hrun];obtain ⟨g1, g2⟩ := j9 (id := id) (x := some ⟨w.heap.size, 0, N⟩) (blk' := .arr t k (List.replicate N c)) none hm (qc7 ρ id w (.cells zs.toArray t)) (fun o ho => by cases ho; exact ⟨.inl (Nat.le_refl _), by simp⟩) (.inr ⟨rfl, .inl hr0⟩) (fun _ b _ _ => z5 b) (.inl rfl)
  (.inr ⟨⟨w.heap.size, 0, N⟩, _, qx _ _ _, heap_alloc_new w _, by simp, hN, .inr (by show 0 + N * k ≤ _; simp [hzl]), fun d hd => by
   rw [List.eq_of_mem_replicate hd]; exact hk, by
   show Fits _ _ _ ((List.drop 0 _).take _);rw [List.drop_zero, List.length_replicate, List.take_of_length_le (by simp [hzl])]
   exact hzf.mono hg.hh hM⟩)
 exact ⟨_, g1, g2, ⟨w.heap.size, 0, N⟩, qx _ _ _, by simp⟩
theorem qcg {o : Oper} {ev : Operand → TV} {t el : TypeId} {x ix : Operand} {k id N : Nat} {b : Bool} {kk : IntKind} {n : Int} (ho : o.op = .indexAddr t x ix)
  (ht : E.P.underlying t = some (.array N el)) (he : tyK E.P el = some (k, b)) (hx : ev x = .eptr id k 0 0) (hi' : ev ix = .g (.lit (.int kk n))) (h0 : 0 ≤ n) (hn : n.toNat < N) (mem : Mem) :
  Eff E o mem ev (.eptr id k n.toNat 0) :=
 jh (fun w M ρ e' hev => by
  have h1 := hev x (by rw [ho]; simp [Op.operands]);rw [hx] at h1;have h2 := hev ix (by rw [ho]; simp [Op.operands]);rw [hi'] at h2;have h2' : e' ix = .int kk n := h2;obtain ⟨ow, g1, g2⟩ := h1
  have hn' : n < (N : Int) := by omega
  refine ⟨.pointer (some ⟨ow.b, ow.o + n.toNat * k, none⟩), ?_, ow, g1, by simp⟩;simp only [execOp, ho, g2, h2']
  simp [Instr.indexAt, asIntOf, underlying, ht, jv he, h0, hn', Instr.sureAddr, Addr.add_lit]) mem
end
section
variable {E : Env} {w0 : World} {M0 : Nat → Prop}
theorem qx1 {α β : Type} (N : Nat) (a : α) (f : α → β) : (List.replicate N a).map f = (List.replicate N [f a]).flatten := by
 induction N with
 | zero => rfl
 | succ n ih => simp [List.replicate_succ, ih]
theorem qli {α : Type} {f : α → List G} {a : α} {o : Oper} {mem : Mem} {ev : Operand → TV} {t : TypeId} {z : Value} {N : Nat} (id : Nat) (ho : o.op = .alloc t) (hz : vu E.P t = some (List.replicate N z)) (hz1 : z.oneCell' = true) (hN : N ≤ maxLen)
  (hfa : f a = [G.lit z]) (hf : qr mem id = none) : EffW E o mem ev (.eptr id 1 0 0) ((id, .arr t 1 (List.map f (List.replicate N a))) :: mem) none := by
 rw [List.map_replicate, hfa];exact qsq id ho hz (by simp [hz1]) hN (qx1 N z G.lit) rfl hf
theorem q1t {o : Oper} {ev : Operand → TV} {t el : TypeId} {x ix : Operand} {b : Bool} {N : Nat} {kk : IntKind} {n : Int} {cs : List G} {c : G} (ho : o.op = .indexAddr t x ix)
  (ht : E.P.underlying t = some (.array N el)) (he : tyK E.P el = some (1, b)) (hx : ev x = .g (.ref cs)) (hi' : ev ix = .g (.lit (.int kk n))) (h0 : 0 ≤ n) (hn : n.toNat < N) (hc : cs[n.toNat]? = some c) (mem : Mem) :
  Eff E o mem ev (.g (.ref [c])) :=
 jh (fun w M ρ e' hev => by
  have h1 := hev x (by rw [ho]; simp [Op.operands]);rw [hx] at h1;have h2 := hev ix (by rw [ho]; simp [Op.operands]);rw [hi'] at h2;have h2' : e' ix = .int kk n := h2;obtain ⟨bl, off, g1, g2, g3⟩ := h1
  have hn' : n < (N : Int) := by omega
  have hne : cs ≠ [] := by rintro rfl; simp at hc
  refine ⟨.pointer (some ⟨bl, off + n.toNat * 1, none⟩), ?_, bl, off + n.toNat, by simp, ?_, ?_⟩
  ·simp only [execOp, ho, g1, h2']
   simp [Instr.indexAt, asIntOf, underlying, ht, jv he, h0, hn', Instr.sureAddr, Addr.add_lit]
  ·rcases g2 with g2 | g2
   ·exact absurd g2 hne
   ·exact .inr g2
  ·have hd := Cells.drop n.toNat g3;obtain ⟨hlt, hge⟩ := List.getElem?_eq_some_iff.1 hc;rw [List.drop_eq_getElem_cons hlt, hge] at hd
   exact ⟨hd.1, trivial⟩) mem
theorem q4o {l : List Int} {i y : Int} (h : ixO l i = some y) : (l.map G.int)[i.toNat]? = some (G.int y) := by rw [List.getElem?_map, zj h]; rfl
theorem q1u {α : Type} {l : List α} {i : Int} {y : α} (h : ixO l i = some y) : i < (l.length : Int) := by
 have h1 := (List.getElem?_eq_some_iff.1 (zj h)).1;have h2 := jm h
 omega
theorem qsr (l : List Bool) : (l.map cBool).flatten = l.map G.bool := by
 induction l with
 | nil => rfl
 | cons a t ih => simp [cBool, ih]
theorem q4p {s : ASt} {t id : Nat} {e : TypeId} {l : List Bool} (h : s.get t = .eptr id 1 0 0) (hb : qr s.mem id = some (.arr e 1 (l.map cBool))) (hbw : qr E.bow id = none := by rfl) : RVal E s (.tmp t) (.ref (l.map G.bool)) := by
 intro w0 M0 ρ w tmps hm ht;have h1 := ht t;rw [h] at h1;obtain ⟨ow, g1, g2⟩ := h1;refine ⟨tmps.getD t undef, rfl, ?_, fun _ _ => rfl⟩
 rcases hm.blk id _ hb with ⟨q1, _⟩ | ⟨ow', cur, q1, q2, q3, q4, q5, q6, q7⟩
 ·rw [g1] at q1; cases q1
 have : ow' = ow := by rw [g1] at q1; simpa using q1.symm
 subst this;refine ⟨ow'.b, ow'.o, by rw [g2]; simp, .inr (qag hm g1 hbw), ?_⟩;rw [qsr] at q7
 have q8 : Fits w (fun b => M0 b ∨ E.lent b) (l.map G.bool) ((cur.toList.drop ow'.o).take ((l.map cBool).length * 1)) := by
  have : ∀ (gs : List Bool) (vs : List Value), Fits w (qz M0 ρ) (gs.map G.bool) vs → Fits w (fun b => M0 b ∨ E.lent b) (gs.map G.bool) vs := by
   intro gs
   induction gs with
   | nil => intro vs h; cases vs with
    | nil => exact h
    | cons _ _ => exact h.elim
   | cons a t ih =>
    intro vs h
    cases vs with
    | nil => exact h.elim
    | cons v vs => exact ⟨h.1, ih vs h.2⟩
  exact this _ _ q7
 refine jx q2 q8 fun j v hj => ?_;rw [List.getElem?_take] at hj
 split at hj
 ·rw [List.getElem?_drop] at hj; simpa using hj
 ·cases hj
theorem qss (l : List Bool) : (G.ref (l.map G.bool)).inert := by
 rintro w M u D o ⟨b, k, h1, h2, h3⟩ hD;exact ⟨b, k, h1, h2, qdo (fun c hc => by obtain ⟨x, _, rfl⟩ := List.mem_map.1 hc; exact kg _) h3 hD⟩
theorem quf {α : Type} {k : Nat} {f : α → List G} {l : List α} (h : ∀ x, ∀ c ∈ f x, c.inert) : (G.sl k (l.map f)).inert :=
 qx2 fun c hc => by
  obtain ⟨y, h1, h2⟩ := List.mem_flatten.1 hc;obtain ⟨x, _, rfl⟩ := List.mem_map.1 h1;exact h x c h2
end
section
variable {E : Env} {w0 : World} {M0 : Nat → Prop}
def G.slF (n k : Nat) (xs : List (List G)) : G :=
 ⟨fun w M u => ∃ a cap, u = .slice a xs.length cap ∧ xs.length ≤ cap ∧ cap ≤ maxLen ∧ (∀ c ∈ xs, c.length = k) ∧
   ((xs.flatten = [] ∧ (a = none → cap = 0)) ∨ ∃ b o, a = some ⟨b, o, none⟩ ∧ n ≤ b ∧ ¬ M b ∧ Cells w M b o xs.flatten), fun {w w' M M' u} h hh hM => by
  obtain ⟨a, cap, h1, h2, h3, h4, h5⟩ := h;refine ⟨a, cap, h1, h2, h3, h4, ?_⟩
  rcases h5 with h5 | ⟨b, o, h5, hn, h6, h7⟩
  ·exact .inl h5
  ·by_cases hc : xs.flatten = []
   ·exact .inl ⟨hc, fun e => by rw [e] at h5; cases h5⟩
   ·exact .inr ⟨b, o, h5, hn, Cells.not_mono hM h6 hc h7, h7.mono hh hM h6⟩⟩
theorem q4q {n k : Nat} {xs : List (List G)} : GSub (G.slF n k xs) (G.sl k xs) := by
 rintro w M u ⟨a, cap, h1, h2, h3, h4, h5⟩;refine ⟨a, cap, h1, h2, h3, h4, ?_⟩
 rcases h5 with h5 | ⟨b, o, h5, hn, h6, h7⟩
 ·exact .inl h5
 ·exact .inr ⟨b, o, h5, h6, h7⟩
theorem q4r {n m k : Nat} {xs : List (List G)} (h : n ≤ m) : GSub (G.slF m k xs) (G.slF n k xs) := by
 rintro w M u ⟨a, cap, h1, h2, h3, h4, h5⟩;refine ⟨a, cap, h1, h2, h3, h4, ?_⟩
 rcases h5 with h5 | ⟨b, o, h5, hn, h6, h7⟩
 ·exact .inl h5
 ·exact .inr ⟨b, o, h5, Nat.le_trans h hn, h6, h7⟩
theorem qug {n k : Nat} : ∀ w M, (G.slF n k []).p w M (.slice none 0 0) := fun _ _ => ⟨none, 0, rfl, Nat.le_refl _, Nat.zero_le _, by simp, .inl ⟨rfl, fun _ => rfl⟩⟩
theorem quh {n k : Nat} : GSub (G.sl k []) (G.slF n k []) := by
 rintro w M u ⟨a, cap, h1, h2, h3, h4, h5⟩;refine ⟨a, cap, h1, h2, h3, h4, .inl ⟨rfl, fun e => ?_⟩⟩
 rcases h5 with h5 | ⟨b, o, h5, _⟩
 ·exact h5.2 e
 ·rw [e] at h5; cases h5
theorem qst {n k : Nat} {α : Type} {f : α → List G} {l : List α} (h : ∀ x, ∀ c ∈ f x, c.inert) : (G.slF n k (l.map f)).inert := by
 rintro w M u D o ⟨a, cap, h1, h2, h3, h4, h5⟩ hD;refine ⟨a, cap, h1, h2, h3, h4, ?_⟩
 rcases h5 with h5 | ⟨b, k', h5, hn, h6, h7⟩
 ·exact .inl h5
 ·exact .inr ⟨b, k', h5, hn, h6, qdo (fun c hc => by
   obtain ⟨y, h1, h2⟩ := List.mem_flatten.1 hc;obtain ⟨x, _, rfl⟩ := List.mem_map.1 h1
   exact h x c h2) h7 hD⟩
instance (n k : Nat) (xs : List (List G)) : One (.slF n k xs) := ⟨fun ⟨_, _, h, _⟩ => by rw [h]; rfl⟩
def Env.fresh (E : Env) (n : Nat) : Env := ⟨E.P, E.gl, E.orders, E.bow, E.rnd, E.mks, n⟩
def ConF (E : Env) (f : FuncId) (args : List G) (r : Nat → G) : Prop :=
 ∀ w M (vs : List Value), (∀ b, M b → b < w.heap.size) → GlOk E w M → FitsT w M args vs → Calls E.P f vs.toArray w fun e' w' => ∃ v, e' = .returned v ∧ Grow w w' ∧ (r w.heap.size).p w' M v
theorem qsu {f : FuncId} {fn : Func} {c : Code} {args : List G} {r : G} {w : World} {M : Nat → Prop} {vs : List Value} (hf : E.P.funcs[f]? = some fn) (hb : fn.body = some c) (hn0 : Nat.ble args.length fn.ntmps = true)
  (h : AWp E w M c (Done E fn r) ⟨fn.ntmps, qah args, []⟩) (hbw : E.bow = []) (hrn : E.rnd = none) (hdf : E.mks = false) (hnb : E.nb ≤ w.heap.size) (hM : ∀ b, M b → b < w.heap.size) (hgl : GlOk E w M) (hv : FitsT w M args vs) :
  Calls E.P f vs.toArray w fun e' w' => ∃ v, e' = .returned v ∧ Grow w w' ∧ r.p w' M v := by
 have hn := Nat.le_of_ble_eq_true hn0;have hlen := hv.length;refine calls_of_wp hf hb ?_
 have ha : ARel E w M ⟨fn.ntmps, qah args, []⟩ { tmps := vs.toArray ++ Array.replicate (fn.ntmps - vs.toArray.size) undef, defers := [] } w := by
  refine ⟨fun _ => rfl, ?_, fun _ => none, ?_, Marks.nil, ?_⟩
  ·simp; omega
  ·refine ⟨BelowX.refl _ w, hM, ?_, ?_, ?_, ?_, (fun id x h => by rw [hbw] at h; cases h), ⟨(fun b h => absurd h (jy hbw)), hnb⟩, ?_⟩
   ·intro g vs hg;have := hgl g vs hg
    have hiff : ∀ b, qz M (fun _ => none) b → M b := by rintro b (h | ⟨_, _, h, _⟩); exact h; cases h
    exact ⟨⟨fun h => this.1.1 (hiff _ h), this.1.2⟩, this.2.mono (fun _ _ _ => rfl) (fun b _ h => hiff b h) this.1.1⟩
   ·intro _ _ h; cases h
   ·intro _ _ h; cases h
   ·intro _ _ _ _ h; cases h
   ·intro _ _ h; cases h
  ·intro i;have hv' : FitsT w (qz M (fun _ => none)) args vs := hv.mono (fun _ _ _ => rfl) (by rintro b _ (h | ⟨_, _, h, _⟩); exact h; cases h);have := qai (ρ := fun _ => none) (fn.ntmps - vs.length) hv' i;show TRel _ _ _ (qah args i) _;rw [Array.getD_eq_getD_getElem?];rw [show (vs.toArray ++ Array.replicate (fn.ntmps - vs.toArray.size) undef) = (vs ++ List.replicate (fn.ntmps - vs.length) undef).toArray by simp];rw [List.getElem?_toArray];exact this
 refine wp_mono (qjt (h _ w ha) hrn) ?_;rintro e a' w' ⟨s', ha', hq⟩
 have fin : ResOk E fn s' r → a'.defers = [] ∧ ∃ v, (results fn a'.tmps).run E.P w' = .ok v w' ∧ (∃ u, Ending.returned v = .returned u ∧ Grow w w' ∧ r.p w' M u) := by
  intro hq;obtain ⟨ρ, hm, _, ht⟩ := ha'.ex;obtain ⟨v, h1, h2, _⟩ := hq.run ρ w' a'.tmps hm ht;exact ⟨ha'.defers hdf, v, h1, v, rfl, hm.below.grow (fun _ => jy hbw), r.mono h2 (fun _ _ _ => rfl) (fun _ _ h => .inl h)⟩
 cases e with
 | ret => exact fin hq
 | normal => exact fin hq
 | _ => exact hq.elim
theorem qsv {f : FuncId} {fn : Func} {c : Code} {args : List G} {r : Nat → G} (hf : E.P.funcs[f]? = some fn) (hb : fn.body = some c) (hn0 : Nat.ble args.length fn.ntmps = true)
  (h : ∀ n w0 M0, AWp (E.fresh n) w0 M0 c (Done (E.fresh n) fn (r n)) ⟨fn.ntmps, qah args, []⟩) (hbw : E.bow = [] := by rfl) (hrn : E.rnd = none := by rfl) (hdf : E.mks = false := by rfl) : ConF E f args r :=
 fun w M vs hM hgl hv => qsu (E := E.fresh w.heap.size) hf hb hn0 (h _ w M) hbw hrn hdf (Nat.le_refl _) hM hgl hv
theorem qpz {f : FuncId} {fn : Func} {c : Code} {args : List G} {r : G} {w : World} {M : Nat → Prop} {vs : List Value} (hf : E.P.funcs[f]? = some fn) (hb : fn.body = some c) (hn0 : Nat.ble args.length fn.ntmps = true) (hin : r.inert)
  (h : AWp E.mked w M c (Done E.mked fn r) ⟨fn.ntmps, qah args, []⟩) (hbw : E.bow = []) (hrn : E.rnd = none) (hnb : E.nb ≤ w.heap.size) (hM : ∀ b, M b → b < w.heap.size) (hgl : GlOk E w M) (hv : FitsT w M args vs) :
  Calls E.P f vs.toArray w fun e' w' => ∃ v, e' = .returned v ∧ Grow w w' ∧ r.p w' M v := by
 have hn := Nat.le_of_ble_eq_true hn0;have hlen := hv.length
 have hF : E.mked.F = Fence.wide := by unfold Env.F Env.mked; rw [hrn]; rfl
 suffices hci : CallsIn Fence.wide 0 E.P f vs.toArray w (fun e w' => ∃ v, e = .returned v ∧ Grow w w' ∧ r.p w' M v) from callsIn_wide.1 hci
 refine callsIn_of_wp_marks hf hb trivial ?_ rfl
 have ha : ARel E.mked w M ⟨fn.ntmps, qah args, []⟩ { tmps := vs.toArray ++ Array.replicate (fn.ntmps - vs.toArray.size) undef, defers := [] } w := by
  refine ⟨fun _ => rfl, ?_, fun _ => none, ?_, Marks.nil, ?_⟩
  ·simp; omega
  ·refine ⟨BelowX.refl _ w, hM, ?_, ?_, ?_, ?_, (fun id x h => by rw [show E.mked.bow = [] from hbw] at h; cases h), ⟨(fun b h => absurd h (jy hbw)), hnb⟩, ?_⟩
   ·intro g vs hg;have := hgl g vs hg
    have hiff : ∀ b, qz M (fun _ => none) b → M b := by rintro b (h | ⟨_, _, h, _⟩); exact h; cases h
    exact ⟨⟨fun h => this.1.1 (hiff _ h), this.1.2⟩, this.2.mono (fun _ _ _ => rfl) (fun b _ h => hiff b h) this.1.1⟩
   ·intro _ _ h; cases h
   ·intro _ _ h; cases h
   ·intro _ _ _ _ h; cases h
   ·intro _ _ h; cases h
  ·intro i;have hv' : FitsT w (qz M (fun _ => none)) args vs := hv.mono (fun _ _ _ => rfl) (by rintro b _ (h | ⟨_, _, h, _⟩); exact h; cases h);have := qai (ρ := fun _ => none) (fn.ntmps - vs.length) hv' i;show TRel _ _ _ (qah args i) _;rw [Array.getD_eq_getD_getElem?];rw [show (vs.toArray ++ Array.replicate (fn.ntmps - vs.toArray.size) undef) = (vs ++ List.replicate (fn.ntmps - vs.length) undef).toArray by simp];rw [List.getElem?_toArray];exact this
 have hw := h _ w ha;rw [hF] at hw;refine wpIn_mono hw ?_;rintro e a' w' ⟨s', ha', hq⟩
 have fin : ResOk E.mked fn s' r → LeavesInM Fence.wide 0 E.P fn a'.tmps (fun e w'' => ∃ v, e = .returned v ∧ Grow w w'' ∧ r.p w'' M v) a'.defers .returning w' := by
  intro hq;obtain ⟨ρ, hm, hmk, ht⟩ := ha'.ex;obtain ⟨v, h1, h2, h3⟩ := hq.run ρ w' a'.tmps hm ht;have hg : Grow w w' := hm.below.grow (fun _ => jy hbw)
  exact qd3 hin a'.defers w' hmk.1 (fun d hd => by
   obtain ⟨D, q1, q2, q3⟩ := hmk.2 d hd
   exact ⟨D, q1, q2, q3.2⟩) hg h3 (r.mono h2 (fun _ _ _ => rfl) (fun _ _ h => .inl h))
 cases e with
 | ret => exact fin hq
 | normal => exact fin hq
 | _ => exact hq.elim
theorem qp0 {f : FuncId} {fn : Func} {c : Code} {args : List G} {r : Nat → G} (hf : E.P.funcs[f]? = some fn) (hb : fn.body = some c) (hn0 : Nat.ble args.length fn.ntmps = true) (hin : ∀ n, (r n).inert)
  (h : ∀ n w0 M0, AWp (E.fresh n).mked w0 M0 c (Done (E.fresh n).mked fn (r n)) ⟨fn.ntmps, qah args, []⟩) (hbw : E.bow = [] := by rfl) (hrn : E.rnd = none := by rfl) : ConF E f args r :=
 fun w M vs hM hgl hv => qpz (E := E.fresh w.heap.size) hf hb hn0 (hin _) (h _ w M) hbw hrn (Nat.le_refl _) hM hgl hv
theorem qx3 {s : ASt} {t id k : Nat} {e : TypeId} {α : Type} {f : α → List G} {l : List α} (h : s.get t = .osl id k 0 l.length) (hb : qr s.mem id = some (.arr e k (l.map f))) (hbw : E.bow = [] := by rfl) : RVal E s (.tmp t) (.slF E.nb k (l.map f)) := by
 intro w0 M0 ρ w tmps hm ht;have h1 := ht t;rw [h] at h1;refine ⟨tmps.getD t undef, rfl, ?_, fun _ _ => rfl⟩;have hlen : (l.map f).length = l.length := List.length_map ..
 rcases h1 with ⟨g1, _, g2, g3⟩ | ⟨ow, g1, _, g2, p, g3, g4⟩
 ·have : l = [] := List.eq_nil_of_length_eq_zero g2;subst this;rw [g3];exact qug _ _
 ·rcases hm.blk id _ hb with ⟨k1, k2⟩ | ⟨ow', vs', k1, k2, k3, k4, k5, k6, k7⟩
  ·rw [g1] at k1; cases k1
  have : ow' = ow := by rw [g1] at k1; simpa using k1.symm
  subst this
  have hbn : qr E.bow id = none := by rw [hbw]; rfl
  refine ⟨some ⟨ow'.b, p, none⟩, ow'.cap, by rw [g3, hlen]; simp, by rw [hlen]; exact g2, k4, k6, ?_⟩
  by_cases hc : ow'.cap = 0
  ·have : l = [] := List.eq_nil_of_length_eq_zero (by omega);subst this;exact .inl ⟨rfl, fun e => by cases e⟩
  ·have hp := g4 (by omega);rw [Nat.zero_mul, Nat.add_zero] at hp;subst hp
   have hge : E.nb ≤ ow'.b := by
    rcases (hm.fresh id ow' g1).1 with h | h
    ·exact Nat.le_trans hm.lentM.2 h
    ·exact absurd h (jy hbw)
   refine .inr ⟨ow'.b, ow'.o, rfl, hge, qag hm g1 hbn, jx k2 (k7.mono (fun _ _ _ => rfl) (fun b _ h => ?_)) ?_⟩
   ·rcases h with h | ⟨id2, ow2, h, h'⟩
    ·exact .inl h
    ·rw [hbw] at h; cases h
   ·intro j v hj;rw [List.getElem?_take] at hj
    split at hj
    ·rw [List.getElem?_drop] at hj; simpa using hj
    ·cases hj
theorem qsw {o : Oper} {ev : Operand → TV} {f : FuncId} {aps : Array Operand} {ts : Array TypeId} {args : List G} {r : Nat → G} {r' : G} (ho : o.op = .call ⟨.value (.func f), aps, ts⟩)
  (hk : ze E.P f) (hev : ev (.func f) = .g (.lit (.func (.func f) #[] #[]))) (hc : ConF E f args r) (hr' : ∀ m, E.nb ≤ m → GSub (r m) r') (ha : aps.toList.map ev = args.map TV.g) (mem : Mem) : Eff E o mem ev (.g r') := by
 intro w0 M0 ρ w e' hm hx;obtain ⟨fn, h1, h2, h3⟩ := hk
 have hef : e' (.func f) = .func (.func f) #[] #[] := by
  have := hx (.func f) (by rw [ho]; simp [Op.operands, Call.operands]);rw [hev] at this;exact this
 have hv : FitsT w (qz M0 ρ) args (aps.toList.map e') := xw (fun x hx' => hx x (by rw [ho]; simp [Op.operands, Call.operands]; exact .inr (by simpa using hx'))) ha
 have hrun : (execOp e' o).run E.P w = .ok (.enter f (aps.toList.map e').toArray) w := by
  simp [execOp, ho, resolve, hef, Deferred.ofValue, invoke, jt h1 h2 h3, ← Array.toList_map]
 rw [hrun];refine (hc w (qz M0 ρ) _ hm.lt hm.glob hv).mono ?_;rintro _ w' ⟨v, rfl, hg, hr⟩;exact ⟨v, rfl, hg, hr' _ (Nat.le_trans hm.lentM.2 hm.below.size) _ _ _ hr⟩
theorem qsx {o : Oper} {mem : Mem} {ev : Operand → TV} {f : FuncId} {aps : Array Operand} {ts : Array TypeId} {args : List G} {k : Nat} {xs : List (List G)} (ho : o.op = .call ⟨.value (.func f), aps, ts⟩)
  (hk : ze E.P f) (hev : ev (.func f) = .g (.lit (.func (.func f) #[] #[]))) (hc : ConF E f args (fun n => G.slF n k xs)) (hp : qod xs.flatten) (hv0 : ∀ w M0 (ρ : Rho) w0 (e : Operand → Value), MRel E w0 M0 ρ mem w → (∀ x ∈ aps.toList, TRel w (qz M0 ρ) ρ (ev x) (e x)) → FitsT w (fun _ => False) args (aps.toList.map e)) : Eff E o mem ev (.g (.sl k xs)) := by
 intro w0 M0 ρ w e' hm hx;obtain ⟨fn, h1, h2, h3⟩ := hk
 have hef : e' (.func f) = .func (.func f) #[] #[] := by
  have := hx (.func f) (by rw [ho]; simp [Op.operands, Call.operands]);rw [hev] at this;exact this
 have hv : FitsT w (fun _ => False) args (aps.toList.map e') := hv0 w M0 ρ w0 e' hm (fun x hx' => hx x (by rw [ho]; simp [Op.operands, Call.operands]; exact .inr (by simpa using hx')));have hgl : GlOk E w (fun _ => False) := fun g vs hg => ⟨⟨fun h => h, (hm.glob g vs hg).1.2⟩, (hm.glob g vs hg).2.mono (fun _ _ _ => rfl) (fun _ _ h => h.elim) (hm.glob g vs hg).1.1⟩
 have hrun : (execOp e' o).run E.P w = .ok (.enter f (aps.toList.map e').toArray) w := by
  simp [execOp, ho, resolve, hef, Deferred.ofValue, invoke, jt h1 h2 h3, ← Array.toList_map]
 rw [hrun];refine (hc w (fun _ => False) _ (fun _ h => h.elim) hgl hv).mono ?_;rintro _ w' ⟨v, rfl, hg, a, cap, q1, q2, q3, q4, q5⟩;refine ⟨v, rfl, hg, a, cap, q1, q2, q3, q4, ?_⟩
 rcases q5 with q5 | ⟨b, o', q5, q6, _, q7⟩
 ·exact .inl q5
 ·refine .inr ⟨b, o', q5, fun h => ?_, ?_⟩
  ·have := hm.lt _ h
   omega
  ·have : ∀ {cs : List G} {k : Nat}, qod cs → Cells w' (fun _ => False) b k cs → Cells w' (qz M0 ρ) b k cs := by
    intro cs
    induction cs with
    | nil => intro k _ h; exact trivial
    | cons c cs ih =>
     intro k hq h;obtain ⟨⟨u, u1, u2, u3⟩, h'⟩ := h;exact ⟨⟨u, u1, hq c List.mem_cons_self _ _ _ _ _ u2, u3⟩, ih (fun g hg => hq g (List.mem_cons_of_mem _ hg)) h'⟩
   exact this hp q7
theorem qui {s : ASt} {t id k : Nat} {e : TypeId} {α : Type} {f : α → List G} {l : List α} {N : Nat} (hN : l.length = N) (h : s.get t = .osl id k 0 N) (hb : qr s.mem id = some (.arr e k (l.map f))) (hbw : E.bow = [] := by rfl) : RVal E s (.tmp t) (.slF E.nb k (l.map f)) := by
 subst hN;exact qx3 h hb hbw
theorem ConF.env {E' : Env} {f : FuncId} {args : List G} {r : Nat → G} (h : ConF E f args r) (hP : E.P = E'.P := by rfl) (hg : E.gl = E'.gl := by rfl) : ConF E' f args r := by
 obtain ⟨P, gl, o, b, r1, m, n⟩ := E;obtain ⟨P', gl', o', b', r1', m', n'⟩ := E'
 cases hP; cases hg
 exact h
theorem ConF.arg {f : FuncId} {x y : G} {gs : List G} {r : Nat → G} (h : ConF E f (y :: gs) r) (hs : GSub x y) : ConF E f (x :: gs) r := by
 intro w M vs hM hgl hv
 match vs, hv with
 | v :: vs, hv => exact h w M _ hM hgl ⟨hs _ _ _ hv.1, hv.2⟩
 | [], hv => exact hv.elim
theorem qx4 {x x' y : G} (h : GSub x x') : GSub (G.tup [x, y]) (G.tup [x', y]) := by
 rintro w M v ⟨vs, h1, h2⟩;refine ⟨vs, h1, ?_⟩
 match vs, h2 with
 | [a, b], ⟨q1, q2⟩ => exact ⟨h _ _ _ q1, q2⟩
theorem qp1 {c : Code} {Q : Exit → ASt → Prop} {s : ASt} (b p n k : Nat) {cs : List TV} (hb : qr s.mem b = some (.box cs)) (hc : cs[p]? = some (.g (.lit (.slice none 0 0))))
  (h : AWp E w0 M0 c Q ⟨s.n, s.tmps, (b, .box (cs.set p (.g (G.slF n k [])))) :: s.mem⟩) : AWp E w0 M0 c Q s := by
 intro a w ha;refine h a w ?_;obtain ⟨ρ, hm, hmk, ht⟩ := ha.ex;obtain ⟨ow, ty, vs, g1, g2, g3, g4⟩ := hm.blk b _ hb;obtain ⟨v, h4, h5, _⟩ := TFits.get p g4 hc;have hv : v = .slice none 0 0 := h5;subst hv;obtain ⟨n1, n2⟩ := j9 (id := b) (x := some ow) (blk' := .box (cs.set p (.g (G.slF n k [])))) none hm ⟨rfl, rfl, rfl, Nat.le_refl _, fun _ _ _ => rfl⟩ (fun o ho => by cases ho; exact ⟨.inr ⟨ow, g1, rfl⟩, (hm.fresh b ow g1).2⟩) (.inr ⟨rfl, .inr g1⟩) (fun _ b _ _ => z5 b) (.inl rfl)
  ⟨ow, ty, vs, qx _ _ _, g2, g3, by rw [qdn g1]; exact TFits.give (show TRel w (qz M0 ρ) ρ (.g (G.slF n k [])) (.slice none 0 0) from qug w _) p g4 h4⟩
 exact ⟨ha.defers, ha.size, _, n1, ⟨hmk.1, fun d hd => by
   obtain ⟨D, q1, q2, q3⟩ := hmk.2 d hd
   exact ⟨D, q1, q2, by rw [qdn g1]; exact q3⟩⟩, fun i => by rw [qdn g1]; exact ht i⟩
end
section
variable {E : Env} {w0 : World} {M0 : Nat → Prop}
theorem qfw {o : Oper} {mem : Mem} {ev : Operand → TV} {t : TypeId} {x : Operand} {id oid k hi : Nat} {g : G} (ho : o.op = .load t x) (ht : tyK E.P t = some (2, true)) (hx : ev x = .ptr id 0) (hb : qr mem id = some (.box [.osl oid k 0 hi, .g g])) :
  Eff E o mem ev (.agl [] oid k hi [g]) := by
 intro w0 M0 ρ w e hm he;have h1 := he x (by rw [ho]; simp [Op.operands]);rw [hx] at h1;obtain ⟨ow, h2, h3⟩ := h1;obtain ⟨ow', ty, vs, g1, g2, g3, g4⟩ := hm.blk id _ hb
 have : ow' = ow := by rw [h2] at g1; simpa using g1.symm
 subst this
 match vs, g4 with
 | [sv, u], ⟨⟨r1, r2⟩, ⟨r3, r4⟩, _⟩ =>
 have hc : ∀ j v, [sv, u][j]? = some v → w.cell? ⟨ow'.b, ow'.o + 0 + j, none⟩ = some v := by
  intro j v hj;rw [cell_of_row w _ _ _ _ _ g3, g2]
  simpa using hj
 have : (execOp e o).run E.P w = .ok (.value (.agg [sv, u].toArray)) w := by
  have := kh ht (show [sv, u].length = 2 from rfl) hc;rw [Nat.add_zero] at this
  simp [execOp, ho, h3, Instr.loadAt, Instr.sureAddr, this]
 rw [this];refine ⟨Grow.refl w, [], sv, [u], rfl, trivial, ⟨⟨r3, r4⟩, trivial⟩, ?_⟩
 rcases r1 with ⟨k1, _, k2, k3⟩ | ⟨ow, k1, _, k2, p, k3, k4⟩
 ·exact .inl ⟨k1, k2, k3⟩
 ·exact .inr ⟨ow, p, k1, k2, by simpa using k3, fun h => by simpa using k4 h⟩
theorem qx5 {mem : Mem} {ev : Operand → TV} {x y : Operand} {id k k2 hi : Nat} {e : TypeId} {α : Type} {f : α → List G} {l : List α} {c : Value} (hx : ev x = .agl [] id k hi [G.lit (.slice none 0 0)]) (hb : qr mem id = some (.arr e k (l.map f))) (hl : l.length = hi) (hy : ev y = .g (.lit c)) :
  ∀ w M0 (ρ : Rho) w0 (e' : Operand → Value), MRel E w0 M0 ρ mem w → (∀ z ∈ #[x, y].toList, TRel w (qz M0 ρ) ρ (ev z) (e' z)) → FitsT w (fun _ => False) [G.agg [G.sl k (l.map f), G.sl k2 []], .lit c] (#[x, y].toList.map e') := by
 intro w M0 ρ w0 e' hm h;have h1 := h x (by simp);have h2 := h y (by simp);rw [hx] at h1;rw [hy] at h2;subst hl;obtain ⟨vs, sv, us, q1, q2, q3, q4⟩ := h1
 match vs, q2, us, q3 with
 | [], _, [u], ⟨⟨q3, _⟩, _⟩ =>
 have q3 : u = .slice none 0 0 := q3
 have hsl : TRel w (qz M0 ρ) ρ (.osl id k 0 l.length) sv := by
  rcases q4 with ⟨k1, k2, k3⟩ | ⟨ow, p, k1, k2, k3, k4⟩
  ·exact .inl ⟨k1, rfl, k2, k3⟩
  ·exact .inr ⟨ow, k1, Nat.zero_le _, k2, p, by simpa using k3, fun h => by simpa using k4 h⟩
 have hv : qc8 mem (.osl id k 0 l.length) = some (.sl k (l.map f)) := by
  simp [qc8, hb]
  rw [show l.length = (l.map f).length by simp, List.take_length]
 have hg := qel hm hsl hv (qp2 _)
 have ho : sv.oneCell' = true := by
  obtain ⟨a, cap, h, _⟩ := hg;rw [h]; rfl
 refine ⟨⟨[sv, u], by rw [q1]; rfl, ⟨hg, ho⟩, ⟨?_, by rw [q3]; rfl⟩, trivial⟩, h2, trivial⟩;rw [q3];exact qip k2 w _
end
end Go.Sim
