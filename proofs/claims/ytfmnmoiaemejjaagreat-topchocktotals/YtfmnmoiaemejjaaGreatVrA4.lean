/-
  What is proved: lemmas and contracts of functions on the way to the law topChockTotals (part 4).
-/
import Derived.Test.YtfmnmoiaemejjaaGreatVrA3
set_option linter.unusedSectionVars false
set_option linter.unusedSimpArgs false
set_option linter.unusedVariables false
set_option linter.unnecessarySimpa false
set_option linter.deprecated false
namespace Go.Sim
section
variable {E : Env} {w0 : World} {M0 : Nat → Prop}
def NewS (n : Nat) (e : TypeId) (k : Nat) (xs : List (List G)) (post : List G) (w : World) (M : Nat → Prop) (v : Value) : Prop :=
 ∃ (sv : Value) (us : List Value), v = .agg (sv :: us).toArray ∧ ((sv = .slice none 0 0 ∧ xs = [] ∧ Fits w M post us) ∨
  ∃ ow : Own, ∃ vs : Array Value, ∃ p, sv = .slice (some ⟨ow.b, p, none⟩) xs.length ow.cap ∧ (0 < ow.cap → p = ow.o) ∧ n ≤ ow.b ∧ ¬ M ow.b ∧ w.heap[ow.b]? = some (.cells vs e (0, 0)) ∧ xs.length ≤ ow.cap ∧ ow.cap ≤ maxLen ∧
   (ow.cap = 0 ∨ ow.o + ow.cap * k ≤ vs.size) ∧ (∀ c ∈ xs, c.length = k) ∧ Fits w (fun b => M b ∨ b = ow.b) xs.flatten ((vs.toList.drop ow.o).take (xs.length * k)) ∧ Fits w (fun b => M b ∨ b = ow.b) post us)
def ConS (E : Env) (f : FuncId) (args : List G) (e : TypeId) (k : Nat) (xs : List (List G)) (post : List G) : Prop :=
 ∀ w M (vs : List Value), (∀ b, M b → b < w.heap.size) → GlOk E w M → FitsT w M args vs → Calls E.P f vs.toArray w fun e' w' => ∃ v, e' = .returned v ∧ Grow w w' ∧ NewS w.heap.size e k xs post w' M v
theorem ConS.mked {f : FuncId} {args : List G} {e : TypeId} {k : Nat} {xs : List (List G)} {post : List G} (h : ConS E f args e k xs post) : ConS E.mked f args e k xs post := h
theorem qsg {n : Nat} {e : TypeId} {k : Nat} {xs : List (List G)} {post : List G} (hk : 0 < k) {w : World} {M : Nat → Prop} {v : Value} (h : NewS n e k xs post w M v) : (G.agg (.sl k xs :: post)).p w M v := by
 obtain ⟨sv, us, rfl, h⟩ := h
 rcases h with ⟨rfl, rfl, h3⟩ | ⟨ow, vs, p, h1, h1', h2, h3, h4, h5, h6, h7, h8, h9, h10⟩
 ·exact ⟨_, U, ⟨⟨none, 0, U, Nat.le_refl _, Nat.zero_le _, by simp, .inl ⟨rfl, fun _ => rfl⟩⟩, U⟩, h3⟩
 ·refine ⟨_, U, ⟨q18 (n := n) (e := e) hk (.inr ⟨ow, vs, p, h1, h1', h2, h3, h4, h5, h6, h7, h8, h9⟩), by rw [h1]; rfl⟩, h10.mono (fun _ _ _ => U) (fun _ _ h => .inl h)⟩
theorem ConS.con {f : FuncId} {args : List G} {e : TypeId} {k : Nat} {xs : List (List G)} {post : List G} (hk : 0 < k) (h : ConS E f args e k xs post) : Con E f args (.agg (.sl k xs :: post)) :=
 fun w M vs h1 h2 h3 => (h w M vs h1 h2 h3).mono fun _ _ ⟨v, h4, h5, h6⟩ => ⟨v, h4, h5, qsg hk h6⟩
def q6d (E : Env) (fn : Func) (e : TypeId) (k : Nat) (xs : List (List G)) (gp : G) : Exit → ASt → Prop
 | .ret, s | .normal, s => ∃ t ty b id N, fn.results = #[.cell t ty] ∧ tyK E.P ty = some (2, true) ∧ s.get t = .ptr b 0 ∧ qr s.mem b = some (.box [.osl id k 0 N, .g gp]) ∧ qr s.mem id = some (.arr e k xs) ∧ xs.length = N
 | _, _ => False
theorem qtz {f : FuncId} {fn : Func} {c : Code} {args : List G} {e : TypeId} {k : Nat} {xs : List (List G)} {gp : G} (hf : E.P.funcs[f]? = some fn) (hb : fn.body = some c) (hn0 : Nat.ble args.length fn.ntmps = true)
  (h : ∀ w0 M0, AWp E w0 M0 c (q6d E fn e k xs gp) ⟨fn.ntmps, qdq args, []⟩) (hbw : E.bow = [] := by rfl) (hrn : E.rnd = none := by rfl) (hdf : E.mks = false := by rfl) (hnb : E.nb = 0 := by rfl) : ConS E f args e k xs [gp] := by
 intro w M vs hM hgl hv;have hn := Nat.le_of_ble_eq_true hn0;have hlen := hv.length;refine calls_of_wp hf hb ?_
 have ha : ARel E w M ⟨fn.ntmps, qdq args, []⟩ { tmps := vs.toArray ++ Array.replicate (fn.ntmps - vs.toArray.size) undef, defers := [] } w := by
  refine ⟨fun _ => U, ?_, fun _ => none, ?_, Marks.nil, ?_⟩
  ·simp; omega
  ·refine ⟨BelowX.refl _ w, hM, ?_, ?_, ?_, ?_, (fun id x h => by rw [hbw] at h; cases h), ⟨(fun b h => absurd h (qao hbw)), Nat.le_trans (Nat.le_of_eq hnb) (Nat.zero_le _)⟩, ?_⟩
   ·intro g vs hg;have := hgl g vs hg
    have hiff : ∀ b, zc M (fun _ => none) b → M b := by rintro b (h | ⟨_, _, h, _⟩); exact h; cases h
    exact ⟨⟨fun h => this.1.1 (hiff _ h), this.1.2⟩, this.2.mono (fun _ _ _ => U) (fun b _ h => hiff b h) this.1.1⟩
   ·intro _ _ h; cases h
   ·intro _ _ h; cases h
   ·intro _ _ _ _ h; cases h
   ·intro _ _ h; cases h
  ·intro i;have hv' : FitsT w (zc M (fun _ => none)) args vs := hv.mono (fun _ _ _ => rfl) (by rintro b _ (h | ⟨_, _, h, _⟩); exact h; cases h);have := qc3 (ρ := fun _ => none) (fn.ntmps - vs.length) hv' i;show TRel _ _ _ (qdq args i) _;rw [Array.getD_eq_getD_getElem?];rw [show (vs.toArray ++ Array.replicate (fn.ntmps - vs.toArray.size) undef) = (vs ++ List.replicate (fn.ntmps - vs.length) undef).toArray by simp];rw [List.getElem?_toArray];exact this
 refine wp_mono (qme (h w M _ w ha) hrn) ?_;rintro ex a' w' ⟨s', ha', hq⟩;have fin : (∃ t ty b id N, fn.results = #[.cell t ty] ∧ tyK E.P ty = some (2, true) ∧ s'.get t = .ptr b 0 ∧ qr s'.mem b = some (.box [.osl id k 0 N, .g gp]) ∧ qr s'.mem id = some (.arr e k xs) ∧ xs.length = N) →
   a'.defers = [] ∧ ∃ v, (results fn a'.tmps).run E.P w' = .ok v w' ∧ (∃ u, Ending.returned v = .returned u ∧ Grow w w' ∧ NewS w.heap.size e k xs [gp] w' M u) := by
  rintro ⟨t, ty, b, id, N, hr, hty, hp, hbx, h3, rfl⟩;obtain ⟨ρ, hm, _, ht⟩ := ha'.ex;have h1 := ht t;rw [hp] at h1;obtain ⟨owb, g1, g2⟩ := h1;obtain ⟨owb', eb, cs, q1, q2, q3, q4⟩ := hm.blk b _ hbx
  have : owb' = owb := by rw [g1] at q1; simpa using q1.symm
  subst this
  match cs, q4 with
  | [sv, u], ⟨⟨r1, r2⟩, ⟨r3, r4⟩, _⟩ =>
  have hc : ∀ j v, [sv, u][j]? = some v → w'.cell? ⟨owb'.b, owb'.o + 0 + j, none⟩ = some v := by
   intro j v hj;rw [cell_of_row w' _ _ _ _ _ q3, q2]
   simpa using hj
  have hres : (results fn a'.tmps).run E.P w' = .ok (.agg [sv, u].toArray) w' := by
   rw [qdv, hr];have := kl hty (show [sv, u].length = 2 from rfl) hc;rw [Nat.add_zero] at this
   simp [qjw, g2, asAddr, this]
  refine ⟨ha'.defers hdf, _, hres, _, U, hm.below.grow (fun _ => w7 hbw), sv, [u], U, ?_⟩;have hnol : ∀ b', (M b' ∨ E.lentK b') → M b' := fun b' h => h.elim (fun h => h) (fun h => absurd h (qao hbw))
  rcases r1 with ⟨k1, _, k2, k3⟩ | ⟨ow, k1, _, k2, p, k3, k4⟩
  ·exact .inl ⟨k3, List.eq_nil_of_length_eq_zero k2, ⟨gp.mono r3 (fun _ _ _ => U) (fun _ _ h => .inl h), r4⟩, O⟩
  ·rcases hm.blk id _ h3 with ⟨l1, l2⟩ | ⟨ow', vs', l1, l2, l3, l4, l5, l6, l7⟩
   ·rw [k1] at l1; cases l1
   ·have : ow' = ow := by rw [k1] at l1; simpa using l1.symm
    subst this;have hno : ¬ M ow'.b := fun h => qbe hm k1 (by rw [hbw]; rfl) (by unfold wz; rw [hbw]; rfl) (.inl h)
    have hnl : w.heap.size ≤ ow'.b := by
     rcases (hm.fresh id ow' k1).1 with h | h
     ·exact h
     ·exact absurd h (w7 hbw)
    have hsub : ∀ b', b' < w'.heap.size → (M b' ∨ b' = ow'.b) → zc M ρ b' := fun b' _ hb' => hb'.elim .inl fun h => .inr ⟨id, ow', k1, h.symm⟩;exact .inr ⟨ow', vs', p, by simpa using k3, fun h => by simpa using k4 h, hnl, hno, l2, l3, l4, l5, l6, l7.mono (fun _ _ _ => rfl) hsub, ⟨gp.mono r3 (fun _ _ _ => rfl) hsub, r4⟩, trivial⟩
 cases ex with
 | ret => exact fin hq
 | normal => exact fin hq
 | _ => exact hq.elim
theorem q91 {fn : Func} {e : TypeId} {k : Nat} {gp : G} {s : ASt} {t : Nat} {ty : TypeId} {b id : Nat} {α : Type} {f : α → List G} {l : List α} {N : Nat} (hr : fn.results = #[.cell t ty]) (ht : tyK E.P ty = some (2, true)) (hp : s.get t = .ptr b 0) (hb : qr s.mem b = some (.box [.osl id k 0 N, .g gp]))
  (hi : qr s.mem id = some (.arr e k (l.map f))) (hN : (l.map f).length = N) : q6d E fn e k (l.map f) gp .ret s := ⟨t, ty, b, id, N, hr, ht, hp, hb, hi, hN⟩
theorem qsh {ρ : Rho} {mem : Mem} {w w' : World} {id : Nat} {e : TypeId} {k : Nat} {xs : List (List G)} {post : List G} {v : Value} (hm : MRel E w0 M0 ρ mem w) (hf : qr mem id = none) (hg : Grow w w') (h : NewS w.heap.size e k xs post w' (zc M0 ρ) v) :
  ∃ ρ', MRel E w0 M0 ρ' ((id, .arr e k xs) :: mem) w' ∧ Kept M0 none ρ w ρ' w' ∧ TRel w' (zc M0 ρ') ρ' (.agl [] id k xs.length post) v := by
 have hr := qb3 hm hf;have hd : Diff ρ id w w' := ⟨hg.os, hg.tape, hg.output, hg.size, fun b hb _ => hg.block b hb⟩;obtain ⟨sv, us, rfl, h⟩ := h
 rcases h with ⟨rfl, rfl, hp⟩ | ⟨ow, vs, p, rfl, h1', h2, h3, h4, h5, h6, h7, h8, h9, h10⟩
 ·obtain ⟨k1, k2⟩ := kg (id := id) (x := none) (blk' := .arr e k []) none hm hd (fun _ h => by cases h) (.inr ⟨rfl, .inl hr⟩) (fun _ b _ _ => z8 b) (.inl rfl) (.inl ⟨qx _ _ _, rfl⟩);refine ⟨_, k1, k2, [], _, us, U, O, hp.mono (fun _ _ _ => U) ?_, .inl ⟨qx _ _ _, U, U⟩⟩;rintro b _ (h | ⟨i, o, h, rfl⟩)
  ·exact .inl h
  ·by_cases hi : i = id
   ·subst hi; rw [qx] at h; cases h
   ·exact .inr ⟨i, o, by simpa [jj, hi] using h, rfl⟩
 ·have hlt : ow.b < w'.heap.size := (Array.getElem?_eq_some_iff.1 h4).1
  have hown : ∀ b, zc M0 (jj ρ id (some ow)) b → zc M0 ρ b ∨ b = ow.b := by
   rintro b (h | ⟨i, o, h, rfl⟩)
   ·exact .inl (.inl h)
   ·by_cases hi : i = id
    ·subst hi; rw [qx] at h; cases h; exact .inr rfl
    ·exact .inl (.inr ⟨i, o, by simpa [jj, hi] using h, rfl⟩)
  obtain ⟨k1, k2⟩ := kg (id := id) (x := some ow) (blk' := .arr e k xs) none hm hd (fun o ho => by cases ho; exact ⟨.inl h2, hlt⟩) (.inr ⟨rfl, .inl hr⟩) (fun _ b _ _ => z8 b) (.inl rfl)
   (.inr ⟨ow, vs, qx _ _ _, h4, h5, h6, h7, h8, h9.mono (fun _ _ _ => rfl) (fun b _ hb => hown b hb)⟩)
  exact ⟨_, k1, k2, [], _, us, U, O, h10.mono (fun _ _ _ => U) (fun b _ hb => hown b hb), .inr ⟨ow, p, qx _ _ _, h5, U, h1'⟩⟩
theorem qij {α : Type} {f0 : α → List G} {l : List α} {o : Oper} {mem : Mem} {ev : Operand → TV} {f : FuncId} {aps : Array Operand} {ts : Array TypeId} {args : List G} {e : TypeId} {k : Nat} {post : List G} (id : Nat) (ho : o.op = .call ⟨.value (.func f), aps, ts⟩)
  (hk : zf E.P f) (hev : ev (.func f) = .g (.lit (.func (.func f) #[] #[]))) (hc : ConS E f args e k (l.map f0) post) (ha : aps.toList.map ev = args.map TV.g) (hf : qr mem id = none) : EffW E o mem ev (.agl [] id k l.length post) ((id, .arr e k (l.map f0)) :: mem) none := by
 intro w0 M0 ρ w e' hm hx;obtain ⟨fn, h1, h2, h3⟩ := hk
 have hef : e' (.func f) = .func (.func f) #[] #[] := by
  have := hx (.func f) (by rw [ho]; simp [Op.operands, Call.operands]);rw [hev] at this;exact this
 have hv : FitsT w (zc M0 ρ) args (aps.toList.map e') := wh (fun x hx' => hx x (by rw [ho]; simp [Op.operands, Call.operands]; exact .inr (by simpa using hx'))) ha
 have hrun : (execOp e' o).run E.P w = .ok (.enter f (aps.toList.map e').toArray) w := by
  simp [execOp, ho, resolve, hef, Deferred.ofValue, invoke, kp h1 h2 h3, ← Array.toList_map]
 rw [hrun];refine (hc w (zc M0 ρ) _ hm.lt hm.glob hv).mono ?_;rintro _ w' ⟨v, rfl, hg, hr⟩;obtain ⟨ρ', g1, g2, g3⟩ := qsh hm hf hg hr;rw [List.length_map] at g3;exact ⟨v, U, ρ', g1, g2, g3⟩
end
theorem qg7 {E : Env} {o : Oper} {ev : Operand → TV} {x y : G} (h : ∀ mem, Eff E o mem ev (.g x)) (hs : GSub x y) (mem : Mem) : Eff E o mem ev (.g y) := by
 intro w0 M0 ρ w e hm he;have := h mem w0 M0 ρ w e hm he
 revert this
 generalize (execOp e o).run E.P w = r
 cases r with
 | halt a b => exact id
 | ok n w' =>
  cases n with
  | value v => exact fun ⟨g, k⟩ => ⟨g, hs _ _ _ k⟩
  | enter f args =>
   intro hh;refine Calls.mono hh ?_;rintro e w'' ⟨v, h1, h2, h3⟩;exact ⟨v, h1, h2, hs _ _ _ h3⟩
  | skip =>
   rintro ⟨g, k⟩;exact ⟨g, hs _ _ _ k⟩
  | _ => exact id
section
variable {E : Env} {w0 : World} {M0 : Nat → Prop}
theorem qnk {a : Act} {w : World} {s : ASt} {b p k : Nat} {cs : List TV} (ha : ARel E w0 M0 s a w) (hb : qr s.mem b = some (.box cs)) (hc : cs[p]? = some (.g (.lit (.slice none 0 0)))) :
  ARel E w0 M0 ⟨s.n, s.tmps, (b, .box (cs.set p (.g (G.sl k [])))) :: s.mem⟩ a w := by
 obtain ⟨ρ, hm, hmk, ht⟩ := ha.ex;obtain ⟨ow, ty, vs, g1, g2, g3, g4⟩ := hm.blk b _ hb;obtain ⟨v, h4, h5, _⟩ := TFits.get p g4 hc;have hv : v = .slice none 0 0 := h5;subst hv;obtain ⟨n1, n2⟩ := kg (id := b) (x := some ow) (blk' := .box (cs.set p (.g (G.sl k [])))) none hm ⟨rfl, rfl, rfl, Nat.le_refl _, fun _ _ _ => rfl⟩ (fun o ho => by cases ho; exact ⟨.inr ⟨ow, g1, rfl⟩, (hm.fresh b ow g1).2⟩) (.inr ⟨rfl, .inr g1⟩) (fun _ b _ _ => z8 b) (.inl rfl)
  ⟨ow, ty, vs, qx _ _ _, g2, g3, by rw [qj4 g1]; exact TFits.give (show TRel w (zc M0 ρ) ρ (.g (G.sl k [])) (.slice none 0 0) from qg8 k w _) p g4 h4⟩
 exact ⟨ha.defers, ha.size, _, n1, ⟨hmk.1, fun d hd => by
   obtain ⟨D, q1, q2, q3⟩ := hmk.2 d hd
   exact ⟨D, q1, q2, by rw [qj4 g1]; exact q3⟩⟩, fun i => by rw [qj4 g1]; exact ht i⟩
theorem qqz {c : Code} {Q : Exit → ASt → Prop} {s : ASt} (b p k : Nat) {cs : List TV} (hb : qr s.mem b = some (.box cs)) (hc : cs[p]? = some (.g (.lit (.slice none 0 0))))
  (h : AWp E w0 M0 c Q ⟨s.n, s.tmps, (b, .box (cs.set p (.g (G.sl k [])))) :: s.mem⟩) : AWp E w0 M0 c Q s := fun a w ha => h a w (qnk ha hb hc)
end
section
variable {E : Env} {w0 : World} {M0 : Nat → Prop}
theorem qt0 {o : Oper} {mem : Mem} {ev : Operand → TV} {t : TypeId} {zs : List Value} {N k : Nat} {c : List G} (id : Nat) (ho : o.op = .alloc t) (hz : vz E.P t = some zs) (hz1 : zs.all Value.oneCell' = true) (hN : N ≤ maxLen)
  (hc : zs.map G.lit = (List.replicate N c).flatten) (hk : c.length = k) (hf : qr mem id = none) :
  EffW E o mem ev (.eptr id k 0 0) ((id, .arr t k (List.replicate N c)) :: mem) none := by
 intro w0 M0 ρ w e hm _;have hr0 := qb3 hm hf;have hg := Grow.alloc w (.cells zs.toArray t)
 have hM : ∀ b, b < w.heap.size → zc M0 (jj ρ id (some ⟨w.heap.size, 0, N⟩)) b → zc M0 ρ b := by
  rintro b hb (h | ⟨i, o, h, rfl⟩)
  ·exact .inl h
  ·by_cases hi : i = id
   ·subst hi; rw [qx] at h; cases h; simp at hb
   ·exact .inr ⟨i, o, by simpa [jj, hi] using h, rfl⟩
 have hzf : Fits w (zc M0 ρ) (List.replicate N c).flatten zs := by rw [← hc]; exact qc4 (fun v hv => List.all_eq_true.1 hz1 v hv)
 have hzl : zs.length = N * k := by rw [hzf.length]; simp [hk]
 have hrun : (execOp e o).run E.P w = .ok (.value (.pointer (some ⟨w.heap.size, 0, none⟩))) (w.alloc (.cells zs.toArray t)) := by
  simp [execOp, ho, qo9 hz]
 rw [hrun];obtain ⟨g1, g2⟩ := kg (id := id) (x := some ⟨w.heap.size, 0, N⟩) (blk' := .arr t k (List.replicate N c)) none hm (qdw ρ id w (.cells zs.toArray t)) (fun o ho => by cases ho; exact ⟨.inl (Nat.le_refl _), by simp⟩) (.inr ⟨rfl, .inl hr0⟩) (fun _ b _ _ => z8 b) (.inl rfl)
  (.inr ⟨⟨w.heap.size, 0, N⟩, _, qx _ _ _, heap_alloc_new w _, by simp, hN, .inr (by show 0 + N * k ≤ _; simp [hzl]), fun d hd => by
   rw [List.eq_of_mem_replicate hd]; exact hk, by
   show Fits _ _ _ ((List.drop 0 _).take _);rw [List.drop_zero, List.length_replicate, List.take_of_length_le (by simp [hzl])]
   exact hzf.mono hg.hh hM⟩)
 exact ⟨_, g1, g2, ⟨w.heap.size, 0, N⟩, qx _ _ _, by simp⟩
theorem qc0 {o : Oper} {ev : Operand → TV} {t el : TypeId} {x ix : Operand} {k id N : Nat} {b : Bool} {kk : IntKind} {n : Int} (ho : o.op = .indexAddr t x ix)
  (ht : E.P.underlying t = some (.array N el)) (he : tyK E.P el = some (k, b)) (hx : ev x = .eptr id k 0 0) (hi' : ev ix = .g (.lit (.int kk n))) (h0 : 0 ≤ n) (hn : n.toNat < N) (mem : Mem) :
  Eff E o mem ev (.eptr id k n.toNat 0) :=
 jf (fun w M ρ e' hev => by
  have h1 := hev x (by rw [ho]; simp [Op.operands]);rw [hx] at h1;have h2 := hev ix (by rw [ho]; simp [Op.operands]);rw [hi'] at h2;have h2' : e' ix = .int kk n := h2;obtain ⟨ow, g1, g2⟩ := h1
  have hn' : n < (N : Int) := by omega
  refine ⟨.pointer (some ⟨ow.b, ow.o + n.toNat * k, none⟩), ?_, ow, g1, by simp⟩;simp only [execOp, ho, g2, h2']
  simp [Instr.indexAt, asIntOf, underlying, ht, jt he, h0, hn', Instr.sureAddr, Addr.add_lit]) mem
end
section
variable {E : Env} {w0 : World} {M0 : Nat → Prop}
theorem qzk {α β : Type} (N : Nat) (a : α) (f : α → β) : (List.replicate N a).map f = (List.replicate N [f a]).flatten := by
 induction N with
 | zero => rfl
 | succ n ih => simp [List.replicate_succ, ih]
theorem qmf {α : Type} {f : α → List G} {a : α} {o : Oper} {mem : Mem} {ev : Operand → TV} {t : TypeId} {z : Value} {N : Nat} (id : Nat) (ho : o.op = .alloc t) (hz : vz E.P t = some (List.replicate N z)) (hz1 : z.oneCell' = true) (hN : N ≤ maxLen)
  (hfa : f a = [G.lit z]) (hf : qr mem id = none) : EffW E o mem ev (.eptr id 1 0 0) ((id, .arr t 1 (List.map f (List.replicate N a))) :: mem) none := by
 rw [List.map_replicate, hfa];exact qt0 id ho hz (by simp [hz1]) hN (qzk N z G.lit) U hf
theorem q3p {o : Oper} {ev : Operand → TV} {t el : TypeId} {x ix : Operand} {b : Bool} {N : Nat} {kk : IntKind} {n : Int} {cs : List G} {c : G} (ho : o.op = .indexAddr t x ix)
  (ht : E.P.underlying t = some (.array N el)) (he : tyK E.P el = some (1, b)) (hx : ev x = .g (.ref cs)) (hi' : ev ix = .g (.lit (.int kk n))) (h0 : 0 ≤ n) (hn : n.toNat < N) (hc : cs[n.toNat]? = some c) (mem : Mem) :
  Eff E o mem ev (.g (.ref [c])) :=
 jf (fun w M ρ e' hev => by
  have h1 := hev x (by rw [ho]; simp [Op.operands]);rw [hx] at h1;have h2 := hev ix (by rw [ho]; simp [Op.operands]);rw [hi'] at h2;have h2' : e' ix = .int kk n := h2;obtain ⟨bl, off, g1, g2, g3⟩ := h1
  have hn' : n < (N : Int) := by omega
  have hne : cs ≠ [] := by rintro rfl; simp at hc
  refine ⟨.pointer (some ⟨bl, off + n.toNat * 1, none⟩), ?_, bl, off + n.toNat, by simp, ?_, ?_⟩
  ·simp only [execOp, ho, g1, h2']
   simp [Instr.indexAt, asIntOf, underlying, ht, jt he, h0, hn', Instr.sureAddr, Addr.add_lit]
  ·rcases g2 with g2 | g2
   ·exact absurd g2 hne
   ·exact .inr g2
  ·have hd := Cells.drop n.toNat g3;obtain ⟨hlt, hge⟩ := List.getElem?_eq_some_iff.1 hc;rw [List.drop_eq_getElem_cons hlt, hge] at hd
   exact ⟨hd.1, O⟩) mem
theorem q6e {l : List Int} {i y : Int} (h : ixO l i = some y) : (l.map G.int)[i.toNat]? = some (G.int y) := by rw [List.getElem?_map, zk h]; rfl
theorem q3q {α : Type} {l : List α} {i : Int} {y : α} (h : ixO l i = some y) : i < (l.length : Int) := by
 have h1 := (List.getElem?_eq_some_iff.1 (zk h)).1;have h2 := jl h
 omega
theorem qt1 (l : List Bool) : (l.map cBool).flatten = l.map G.bool := by
 induction l with
 | nil => rfl
 | cons a t ih => simp [cBool, ih]
theorem q6f {s : ASt} {t id : Nat} {e : TypeId} {l : List Bool} (h : s.get t = .eptr id 1 0 0) (hb : qr s.mem id = some (.arr e 1 (l.map cBool))) (hbw : qr E.bow id = none := by rfl) (hst : wz E = true := by rfl) : RVal E s (.tmp t) (.ref (l.map G.bool)) := by
 intro w0 M0 ρ w tmps hm ht;have h1 := ht t;rw [h] at h1;obtain ⟨ow, g1, g2⟩ := h1;refine ⟨tmps.getD t undef, U, ?_, fun _ _ => U⟩
 rcases hm.blk id _ hb with ⟨q1, _⟩ | ⟨ow', cur, q1, q2, q3, q4, q5, q6, q7⟩
 ·rw [g1] at q1; cases q1
 have : ow' = ow := by rw [g1] at q1; simpa using q1.symm
 subst this;refine ⟨ow'.b, ow'.o, by rw [g2]; simp, .inr (qbe hm g1 hbw hst), ?_⟩;rw [qt1] at q7
 have q8 : Fits w (fun b => M0 b ∨ E.lentK b) (l.map G.bool) ((cur.toList.drop ow'.o).take ((l.map cBool).length * 1)) := by
  have : ∀ (gs : List Bool) (vs : List Value), Fits w (zc M0 ρ) (gs.map G.bool) vs → Fits w (fun b => M0 b ∨ E.lentK b) (gs.map G.bool) vs := by
   intro gs
   induction gs with
   | nil => intro vs h; cases vs with
    | nil => exact h
    | cons _ _ => exact h.elim
   | cons a t ih =>
    intro vs h
    cases vs with
    | nil => exact h.elim
    | cons v vs => exact ⟨h.1, ih vs h.2⟩
  exact this _ _ q7
 refine j8 q2 q8 fun j v hj => ?_;rw [List.getElem?_take] at hj
 split at hj
 ·rw [List.getElem?_drop] at hj; simpa using hj
 ·cases hj
theorem qt2 (l : List Bool) : (G.ref (l.map G.bool)).inert := by
 rintro w M u D o ⟨b, k, h1, h2, h3⟩ hD;exact ⟨b, k, h1, h2, qgc (fun c hc => by obtain ⟨x, _, rfl⟩ := List.mem_map.1 hc; exact wa _) h3 hD⟩
theorem qpa {α : Type} {k : Nat} {f : α → List G} {l : List α} (h : ∀ x, ∀ c ∈ f x, c.inert) : (G.sl k (l.map f)).inert :=
 qzl fun c hc => by
  obtain ⟨y, h1, h2⟩ := List.mem_flatten.1 hc;obtain ⟨x, _, rfl⟩ := List.mem_map.1 h1;exact h x c h2
end
section
variable {E : Env} {w0 : World} {M0 : Nat → Prop}
def G.slF (n k : Nat) (xs : List (List G)) : G :=
 ⟨fun w M u => ∃ a cap, u = .slice a xs.length cap ∧ xs.length ≤ cap ∧ cap ≤ maxLen ∧ (∀ c ∈ xs, c.length = k) ∧
   ((xs.flatten = [] ∧ (a = none → cap = 0)) ∨ ∃ b o, a = some ⟨b, o, none⟩ ∧ n ≤ b ∧ ¬ M b ∧ Cells w M b o xs.flatten), fun {w w' M M' u} h hh hM => by
  obtain ⟨a, cap, h1, h2, h3, h4, h5⟩ := h;refine ⟨a, cap, h1, h2, h3, h4, ?_⟩
  rcases h5 with h5 | ⟨b, o, h5, hn, h6, h7⟩
  ·exact .inl h5
  ·by_cases hc : xs.flatten = []
   ·exact .inl ⟨hc, fun e => by rw [e] at h5; cases h5⟩
   ·exact .inr ⟨b, o, h5, hn, Cells.not_mono hM h6 hc h7, h7.mono hh hM h6⟩⟩
instance (n k : Nat) (xs : List (List G)) : One (.slF n k xs) := ⟨fun ⟨_, _, h, _⟩ => by rw [h]; rfl⟩
def Env.fresh (E : Env) (n : Nat) : Env := ⟨E.P, E.gl, E.orders, E.bow, E.rnd, E.mks, n⟩
def ConF (E : Env) (f : FuncId) (args : List G) (r : Nat → G) : Prop :=
 ∀ w M (vs : List Value), (∀ b, M b → b < w.heap.size) → GlOk E w M → FitsT w M args vs → Calls E.P f vs.toArray w fun e' w' => ∃ v, e' = .returned v ∧ Grow w w' ∧ (r w.heap.size).p w' M v
theorem ConF.arg {f : FuncId} {x y : G} {gs : List G} {r : Nat → G} (h : ConF E f (y :: gs) r) (hs : GSub x y) : ConF E f (x :: gs) r := by
 intro w M vs hM hgl hv
 match vs, hv with
 | v :: vs, hv => exact h w M _ hM hgl ⟨hs _ _ _ hv.1, hv.2⟩
 | [], hv => exact hv.elim
end
section
variable {E : Env} {w0 : World} {M0 : Nat → Prop}
theorem qkm {o : Oper} {mem : Mem} {ev : Operand → TV} {t : TypeId} {x : Operand} {id oid k hi : Nat} {g : G} (ho : o.op = .load t x) (ht : tyK E.P t = some (2, true)) (hx : ev x = .ptr id 0) (hb : qr mem id = some (.box [.osl oid k 0 hi, .g g])) :
  Eff E o mem ev (.agl [] oid k hi [g]) := by
 intro w0 M0 ρ w e hm he;have h1 := he x (by rw [ho]; simp [Op.operands]);rw [hx] at h1;obtain ⟨ow, h2, h3⟩ := h1;obtain ⟨ow', ty, vs, g1, g2, g3, g4⟩ := hm.blk id _ hb
 have : ow' = ow := by rw [h2] at g1; simpa using g1.symm
 subst this
 match vs, g4 with
 | [sv, u], ⟨⟨r1, r2⟩, ⟨r3, r4⟩, _⟩ =>
 have hc : ∀ j v, [sv, u][j]? = some v → w.cell? ⟨ow'.b, ow'.o + 0 + j, none⟩ = some v := by
  intro j v hj;rw [cell_of_row w _ _ _ _ _ g3, g2]
  simpa using hj
 have : (execOp e o).run E.P w = .ok (.value (.agg [sv, u].toArray)) w := by
  have := kl ht (show [sv, u].length = 2 from rfl) hc;rw [Nat.add_zero] at this
  simp [execOp, ho, h3, Instr.loadAt, Instr.sureAddr, this]
 rw [this];refine ⟨Grow.refl w, [], sv, [u], U, O, ⟨⟨r3, r4⟩, O⟩, ?_⟩
 rcases r1 with ⟨k1, _, k2, k3⟩ | ⟨ow, k1, _, k2, p, k3, k4⟩
 ·exact .inl ⟨k1, k2, k3⟩
 ·exact .inr ⟨ow, p, k1, k2, by simpa using k3, fun h => by simpa using k4 h⟩
end
section
variable {E : Env} {w0 : World} {M0 : Nat → Prop}
theorem qsi {α : Type} {l : List α} {i : Nat} {a : α} (h : l[i]? = some a) : l.set i a = l := by
 obtain ⟨h1, h2⟩ := List.getElem?_eq_some_iff.1 h;rw [← h2]; exact List.set_getElem_self h1
end
section
variable {E : Env} {w0 : World} {M0 : Nat → Prop}
def ConP (E : Env) (f : FuncId) (args : List G) (e : TypeId) (k : Nat) (xs : List (List G)) (gp : G) (c : Value) : Prop :=
 ∀ w M (vs : List Value), (∀ b, M b → b < w.heap.size) → GlOk E w M → FitsT w M args vs → Calls E.P f vs.toArray w fun e' w' => ∃ v1, e' = .returned (.tuple #[v1, c]) ∧ Grow w w' ∧ NewS w.heap.size e k xs [gp] w' M v1
theorem ConP.con {f : FuncId} {args : List G} {e : TypeId} {k : Nat} {xs : List (List G)} {gp : G} {c : Value} (hk : 0 < k) (h : ConP E f args e k xs gp c) : Con E f args (.tup [.agg [.sl k xs, gp], .lit c]) :=
 fun w M vs h1 h2 h3 => (h w M vs h1 h2 h3).mono fun _ _ ⟨v1, h4, h5, h6⟩ => ⟨_, h4, h5, [v1, c], rfl, qsg hk h6, rfl, trivial⟩
def q3r (E : Env) (fn : Func) (e : TypeId) (k : Nat) (xs : List (List G)) (gp : G) (c : Value) : Exit → ASt → Prop
 | .ret, s | .normal, s => ∃ t ty t2 b g0, fn.results = #[.cell t ty, .tmp t2] ∧ tyK E.P ty = some (2, true) ∧ s.get t = .ptr b 0 ∧ s.get t2 = .g (.lit c) ∧ GSub g0 gp ∧
   ((∃ id N, qr s.mem b = some (.box [.osl id k 0 N, .g g0]) ∧ qr s.mem id = some (.arr e k xs) ∧ xs.length = N) ∨ (qr s.mem b = some (.box [.g (.lit (.slice none 0 0)), .g g0]) ∧ xs = []))
 | _, _ => False
theorem qt3 {f : FuncId} {fn : Func} {c : Code} {args : List G} {e : TypeId} {k : Nat} {xs : List (List G)} {gp : G} {cv : Value} (hf : E.P.funcs[f]? = some fn) (hb : fn.body = some c) (hn0 : Nat.ble args.length fn.ntmps = true)
  (h : ∀ w0 M0, AWp E w0 M0 c (q3r E fn e k xs gp cv) ⟨fn.ntmps, qdq args, []⟩) (hbw : E.bow = [] := by rfl) (hrn : E.rnd = none := by rfl) (hdf : E.mks = false := by rfl) (hnb : E.nb = 0 := by rfl) : ConP E f args e k xs gp cv := by
 intro w M vs hM hgl hv;have hn := Nat.le_of_ble_eq_true hn0;have hlen := hv.length;refine calls_of_wp hf hb ?_
 have ha : ARel E w M ⟨fn.ntmps, qdq args, []⟩ { tmps := vs.toArray ++ Array.replicate (fn.ntmps - vs.toArray.size) undef, defers := [] } w := by
  refine ⟨fun _ => U, ?_, fun _ => none, ?_, Marks.nil, ?_⟩
  ·simp; omega
  ·refine ⟨BelowX.refl _ w, hM, ?_, ?_, ?_, ?_, (fun id x h => by rw [hbw] at h; cases h), ⟨(fun b h => absurd h (qao hbw)), Nat.le_trans (Nat.le_of_eq hnb) (Nat.zero_le _)⟩, ?_⟩
   ·intro g vs hg;have := hgl g vs hg
    have hiff : ∀ b, zc M (fun _ => none) b → M b := by rintro b (h | ⟨_, _, h, _⟩); exact h; cases h
    exact ⟨⟨fun h => this.1.1 (hiff _ h), this.1.2⟩, this.2.mono (fun _ _ _ => U) (fun b _ h => hiff b h) this.1.1⟩
   ·intro _ _ h; cases h
   ·intro _ _ h; cases h
   ·intro _ _ _ _ h; cases h
   ·intro _ _ h; cases h
  ·intro i;have hv' : FitsT w (zc M (fun _ => none)) args vs := hv.mono (fun _ _ _ => rfl) (by rintro b _ (h | ⟨_, _, h, _⟩); exact h; cases h);have := qc3 (ρ := fun _ => none) (fn.ntmps - vs.length) hv' i;show TRel _ _ _ (qdq args i) _;rw [Array.getD_eq_getD_getElem?];rw [show (vs.toArray ++ Array.replicate (fn.ntmps - vs.toArray.size) undef) = (vs ++ List.replicate (fn.ntmps - vs.length) undef).toArray by simp];rw [List.getElem?_toArray];exact this
 refine wp_mono (qme (h w M _ w ha) hrn) ?_;rintro ex a' w' ⟨s', ha', hq⟩
 have fin : (∃ t ty t2 b g0, fn.results = #[.cell t ty, .tmp t2] ∧ tyK E.P ty = some (2, true) ∧ s'.get t = .ptr b 0 ∧ s'.get t2 = .g (.lit cv) ∧ GSub g0 gp ∧
   ((∃ id N, qr s'.mem b = some (.box [.osl id k 0 N, .g g0]) ∧ qr s'.mem id = some (.arr e k xs) ∧ xs.length = N) ∨ (qr s'.mem b = some (.box [.g (.lit (.slice none 0 0)), .g g0]) ∧ xs = []))) →
   a'.defers = [] ∧ ∃ v, (results fn a'.tmps).run E.P w' = .ok v w' ∧ (∃ v1, Ending.returned v = .returned (.tuple #[v1, cv]) ∧ Grow w w' ∧ NewS w.heap.size e k xs [gp] w' M v1) := by
  rintro ⟨t, ty, t2, b, g0, hr, hty, hp, hp2, hsub0, hbx⟩;obtain ⟨ρ, hm, _, ht⟩ := ha'.ex;have h1 := ht t;rw [hp] at h1;have h1b := ht t2;rw [hp2] at h1b;have h1b : a'.tmps.getD t2 undef = cv := h1b;obtain ⟨owb, g1, g2⟩ := h1
  obtain ⟨tv, hbx0⟩ : ∃ tv, qr s'.mem b = some (.box [tv, .g g0]) := by
   rcases hbx with ⟨_, _, q, _⟩ | ⟨q, _⟩
   ·exact ⟨_, q⟩
   ·exact ⟨_, q⟩
  obtain ⟨owb', eb, cs, q1, q2, q3, q4⟩ := hm.blk b _ hbx0
  have : owb' = owb := by rw [g1] at q1; simpa using q1.symm
  subst this
  match cs, q4 with
  | [sv, u], ⟨⟨r1, r2⟩, ⟨r3, r4⟩, _⟩ =>
  have hc : ∀ j v, [sv, u][j]? = some v → w'.cell? ⟨owb'.b, owb'.o + 0 + j, none⟩ = some v := by
   intro j v hj;rw [cell_of_row w' _ _ _ _ _ q3, q2]
   simpa using hj
  have hres : (results fn a'.tmps).run E.P w' = .ok (.tuple #[.agg [sv, u].toArray, cv]) w' := by
   rw [qdv, hr];have := kl hty (show [sv, u].length = 2 from rfl) hc;rw [Nat.add_zero] at this
   have g2' : a'.tmps[t]?.getD undef = .pointer (some ⟨owb'.b, owb'.o, none⟩) := by
    rw [← Array.getD_eq_getD_getElem?]; simpa using g2
   have h1b' : a'.tmps[t2]?.getD undef = cv := by rw [← Array.getD_eq_getD_getElem?]; exact h1b
   simp [qjw, g2', h1b', asAddr, this]
  refine ⟨ha'.defers hdf, _, hres, .agg [sv, u].toArray, U, hm.below.grow (fun _ => w7 hbw), sv, [u], U, ?_⟩
  rcases hbx with ⟨id, N, hbx, h3, rfl⟩ | ⟨hbx, rfl⟩
  ·rw [hbx0] at hbx
   have htv : tv = .osl id k 0 xs.length := by injection hbx with hbx; injection hbx with hbx; injection hbx
   subst htv
   rcases r1 with ⟨k1, _, k2, k3⟩ | ⟨ow, k1, _, k2, p, k3, k4⟩
   ·exact .inl ⟨k3, List.eq_nil_of_length_eq_zero k2, ⟨gp.mono (hsub0 _ _ _ r3) (fun _ _ _ => U) (fun _ _ h => .inl h), r4⟩, O⟩
   ·rcases hm.blk id _ h3 with ⟨l1, l2⟩ | ⟨ow', vs', l1, l2, l3, l4, l5, l6, l7⟩
    ·rw [k1] at l1; cases l1
    ·have : ow' = ow := by rw [k1] at l1; simpa using l1.symm
     subst this;have hno : ¬ M ow'.b := fun h => qbe hm k1 (by rw [hbw]; rfl) (by unfold wz; rw [hbw]; rfl) (.inl h)
     have hnl : w.heap.size ≤ ow'.b := by
      rcases (hm.fresh id ow' k1).1 with h | h
      ·exact h
      ·exact absurd h (w7 hbw)
     have hsub : ∀ b', b' < w'.heap.size → (M b' ∨ b' = ow'.b) → zc M ρ b' := fun b' _ hb' => hb'.elim .inl fun h => .inr ⟨id, ow', k1, h.symm⟩;exact .inr ⟨ow', vs', p, by simpa using k3, fun h => by simpa using k4 h, hnl, hno, l2, l3, l4, l5, l6, l7.mono (fun _ _ _ => rfl) hsub, ⟨gp.mono (hsub0 _ _ _ r3) (fun _ _ _ => rfl) hsub, r4⟩, trivial⟩
  ·rw [hbx0] at hbx
   have htv : tv = .g (.lit (.slice none 0 0)) := by injection hbx with hbx; injection hbx with hbx; injection hbx
   subst htv;exact .inl ⟨r1, U, ⟨gp.mono (hsub0 _ _ _ r3) (fun _ _ _ => U) (fun _ _ h => .inl h), r4⟩, O⟩
 cases ex with
 | ret => exact fin hq
 | normal => exact fin hq
 | _ => exact hq.elim
theorem q92 {fn : Func} {e : TypeId} {k : Nat} {g0 gp : G} {c : Value} {s : ASt} {t t2 : Nat} {ty : TypeId} {b id : Nat} {α : Type} {f : α → List G} {l : List α} {N : Nat} (hr : fn.results = #[.cell t ty, .tmp t2]) (ht : tyK E.P ty = some (2, true)) (hp : s.get t = .ptr b 0) (hp2 : s.get t2 = .g (.lit c))
  (hs : GSub g0 gp) (hb : qr s.mem b = some (.box [.osl id k 0 N, .g g0])) (hi : qr s.mem id = some (.arr e k (l.map f))) (hN : (l.map f).length = N) : q3r E fn e k (l.map f) gp c .ret s := ⟨t, ty, t2, b, g0, hr, ht, hp, hp2, hs, .inl ⟨id, N, hb, hi, hN⟩⟩
theorem qkn {fn : Func} {e : TypeId} {k : Nat} {g0 gp : G} {c : Value} {s : ASt} {t t2 : Nat} {ty : TypeId} {b : Nat} {α : Type} {f : α → List G} (hr : fn.results = #[.cell t ty, .tmp t2]) (ht : tyK E.P ty = some (2, true)) (hp : s.get t = .ptr b 0) (hp2 : s.get t2 = .g (.lit c))
  (hs : GSub g0 gp) (hb : qr s.mem b = some (.box [.g (.lit (.slice none 0 0)), .g g0])) : q3r E fn e k (([] : List α).map f) gp c .ret s := ⟨t, ty, t2, b, g0, hr, ht, hp, hp2, hs, .inr ⟨hb, rfl⟩⟩
theorem qvl (g : G) : GSub g g := fun _ _ _ h => h
theorem qnl {k : Nat} : GSub (.lit (.slice none 0 0)) (G.sl k []) := by
 intro w M u h;have h : u = .slice none 0 0 := h;rw [h]; exact qg8 k w M
theorem qzm {ρ : Rho} {mem : Mem} {w w' : World} {id : Nat} {e : TypeId} {k : Nat} {xs : List (List G)} {gp : G} {v c : Value} (hm : MRel E w0 M0 ρ mem w) (hf : qr mem id = none) (hg : Grow w w') (h : NewS w.heap.size e k xs [gp] w' (zc M0 ρ) v) :
  ∃ ρ', MRel E w0 M0 ρ' ((id, .arr e k xs) :: mem) w' ∧ Kept M0 none ρ w ρ' w' ∧ TRel w' (zc M0 ρ') ρ' (.tgl id k xs.length gp (.lit c)) (.tuple #[v, c]) := by
 obtain ⟨ρ', h1, h2, h3⟩ := qsh hm hf hg h;refine ⟨ρ', h1, h2, ?_⟩;obtain ⟨vs, sv, us, q1, q2, q3, q4⟩ := h3
 match vs, q2, us, q3 with
 | [], _, [u], ⟨q3, _⟩ => exact ⟨sv, u, c, by rw [q1]; rfl, q3, rfl, q4⟩
theorem qpb {α : Type} {f0 : α → List G} {l : List α} {o : Oper} {mem : Mem} {ev : Operand → TV} {f : FuncId} {aps : Array Operand} {ts : Array TypeId} {args : List G} {e : TypeId} {k : Nat} {gp : G} {c : Value} (id : Nat) (ho : o.op = .call ⟨.value (.func f), aps, ts⟩)
  (hk : zf E.P f) (hev : ev (.func f) = .g (.lit (.func (.func f) #[] #[]))) (hc : ConP E f args e k (l.map f0) gp c) (ha : aps.toList.map ev = args.map TV.g) (hf : qr mem id = none) : EffW E o mem ev (.tgl id k l.length gp (.lit c)) ((id, .arr e k (l.map f0)) :: mem) none := by
 intro w0 M0 ρ w e' hm hx;obtain ⟨fn, h1, h2, h3⟩ := hk
 have hef : e' (.func f) = .func (.func f) #[] #[] := by
  have := hx (.func f) (by rw [ho]; simp [Op.operands, Call.operands]);rw [hev] at this;exact this
 have hv : FitsT w (zc M0 ρ) args (aps.toList.map e') := wh (fun x hx' => hx x (by rw [ho]; simp [Op.operands, Call.operands]; exact .inr (by simpa using hx'))) ha
 have hrun : (execOp e' o).run E.P w = .ok (.enter f (aps.toList.map e').toArray) w := by
  simp [execOp, ho, resolve, hef, Deferred.ofValue, invoke, kp h1 h2 h3, ← Array.toList_map]
 rw [hrun];refine (hc w (zc M0 ρ) _ hm.lt hm.glob hv).mono ?_;rintro _ w' ⟨v, rfl, hg, hr⟩;obtain ⟨ρ', g1, g2, g3⟩ := qzm (c := c) hm hf hg hr;rw [List.length_map] at g3;exact ⟨_, U, ρ', g1, g2, g3⟩
theorem qg9 {o : Oper} {ev : Operand → TV} {x : Operand} {id k hi : Nat} {gp r : G} (ho : o.op = .extract x 0) (hx : ev x = .tgl id k hi gp r) (mem : Mem) : Eff E o mem ev (.agl [] id k hi [gp]) :=
 jf (fun w M ρ e hev => by
  have h1 := hev x (by rw [ho]; simp [Op.operands]);rw [hx] at h1;obtain ⟨sv, u, z, h2, h3, h4, h5⟩ := h1;refine ⟨.agg #[sv, u], ?_, [], sv, [u], U, O, ⟨h3, O⟩, h5⟩
  simp [execOp, ho, Instr.extract, h2]) mem
theorem qha {o : Oper} {ev : Operand → TV} {x : Operand} {id k hi : Nat} {gp r : G} (ho : o.op = .extract x 1) (hx : ev x = .tgl id k hi gp r) (mem : Mem) : Eff E o mem ev (.g r) :=
 jf (fun w M ρ e hev => by
  have h1 := hev x (by rw [ho]; simp [Op.operands]);rw [hx] at h1;obtain ⟨sv, u, z, h2, h3, h4, h5⟩ := h1;refine ⟨z, ?_, h4⟩
  simp [execOp, ho, Instr.extract, h2]) mem
theorem qvm {o : Oper} {ev : Operand → TV} {x : Operand} {id k hi : Nat} {gp r : G} (ho : o.op = .move x) (h : ev x = .tgl id k hi gp r) (mem : Mem) : Eff E o mem ev (.tgl id k hi gp r) := qhb ho h mem
theorem qpc {o : Oper} {mem : Mem} {ev : Operand → TV} {f : FuncId} {aps : Array Operand} {ts : Array TypeId} {args : List G} {r : G} [Pure r] (ho : o.op = .call ⟨.value (.func f), aps, ts⟩)
  (hk : zf E.P f) (hev : ev (.func f) = .g (.lit (.func (.func f) #[] #[]))) (hc : Con E f args r)
  (ha : ∀ w0 M0 (ρ : Rho) w (e : Operand → Value), MRel E w0 M0 ρ mem w → (∀ z ∈ aps.toList, TRel w (zc M0 ρ) ρ (ev z) (e z)) → FitsT w (fun _ => False) args (aps.toList.map e)) : Eff E o mem ev (.g r) := by
 intro w0 M0 ρ w e hm hx;obtain ⟨fn, h1, h2, h3⟩ := hk
 have hef : e (.func f) = .func (.func f) #[] #[] := by
  have := hx (.func f) (by rw [ho]; simp [Op.operands, Call.operands]);rw [hev] at this;exact this
 have hv : FitsT w (fun _ => False) args (aps.toList.map e) := ha w0 M0 ρ w e hm (fun x hx' => hx x (by rw [ho]; simp [Op.operands, Call.operands]; exact .inr (by simpa using hx')));have hgl : GlOk E w (fun _ => False) := fun g vs hg => ⟨⟨fun h => h, (hm.glob g vs hg).1.2⟩, (hm.glob g vs hg).2.mono (fun _ _ _ => rfl) (fun _ _ h => h.elim) (hm.glob g vs hg).1.1⟩
 have hrun : (execOp e o).run E.P w = .ok (.enter f (aps.toList.map e).toArray) w := by
  simp [execOp, ho, resolve, hef, Deferred.ofValue, invoke, kp h1 h2 h3, ← Array.toList_map]
 rw [hrun];refine (hc w (fun _ => False) _ (fun _ h => h.elim) hgl hv).mono ?_;rintro e' w' ⟨v, rfl, g1, g2⟩;exact ⟨v, U, g1, Pure.pure g2⟩
theorem qsj {mem : Mem} {ev : Operand → TV} {x y : Operand} {id k hi : Nat} {gp gy : G} {e : TypeId} {α : Type} {f : α → List G} {l : List α} (hx : ev x = .agl [] id k hi [gp]) (hb : qr mem id = some (.arr e k (l.map f))) (hl : l.length = hi) (hy : ev y = .g gy) :
  ∀ w0 M0 (ρ : Rho) w (e' : Operand → Value), MRel E w0 M0 ρ mem w → (∀ z ∈ #[x, y].toList, TRel w (zc M0 ρ) ρ (ev z) (e' z)) → FitsT w (fun _ => False) [G.agg [G.sl k (l.map f), gp], gy] (#[x, y].toList.map e') := by
 intro w0 M0 ρ w e' hm h;have h1 := h x (by simp);have h2 := h y (by simp);rw [hx] at h1;rw [hy] at h2;subst hl;obtain ⟨vs, sv, us, q1, q2, q3, q4⟩ := h1
 match vs, q2, us, q3 with
 | [], _, [u], ⟨⟨q3, q3'⟩, _⟩ =>
 have hsl : TRel w (zc M0 ρ) ρ (.osl id k 0 l.length) sv := by
  rcases q4 with ⟨k1, k2, k3⟩ | ⟨ow, p, k1, k2, k3, k4⟩
  ·exact .inl ⟨k1, U, k2, k3⟩
  ·exact .inr ⟨ow, k1, Nat.zero_le _, k2, p, by simpa using k3, fun h => by simpa using k4 h⟩
 have hv : qnm mem (.osl id k 0 l.length) = some (.sl k (l.map f)) := by
  simp [qnm, hb]
  rw [show l.length = (l.map f).length by simp, List.take_length]
 have hg := qnn hm hsl hv (q3s _)
 have ho : sv.oneCell' = true := by
  obtain ⟨a, cap, h, _⟩ := hg;rw [h]; rfl
 exact ⟨⟨[sv, u], by rw [q1]; rfl, ⟨hg, ho⟩, ⟨gp.mono q3 (fun _ _ _ => rfl) (fun _ _ h => h.elim), q3'⟩, trivial⟩, gy.mono h2 (fun _ _ _ => U) (fun _ _ h => h.elim), O⟩
theorem qvn {w : World} {M : Nat → Prop} {ρ : Rho} : ∀ {cs : List G} {vs : List Value}, FitsT w M cs vs → ArgsT w M ρ (cs.map TV.g) vs
 | [], [], _ => trivial
 | _ :: _, _ :: _, h => ⟨h.1, qvn h.2⟩
 | [], _ :: _, h => h.elim
 | _ :: _, [], h => h.elim
theorem qt4 {o : Oper} {mem : Mem} {ev : Operand → TV} {f : FuncId} {z x : Operand} {ts : Array TypeId} {fv : G} {cap : List G} {k i : Nat} {b b' : Blk} {r : G} (p c : Nat) (ho : o.op = .call ⟨.value z, #[x], ts⟩)
  (hf : FnIs fv f cap) (hk : zf E.P f) (hz : ev z = .g fv) (hc : ConB E f (.eptr p k i 0 :: cap.map TV.g) [(p, b)] r [(p, b')]) (ha : ev x = .eptr c k i 0) (hl : qr mem c = some b) (hσ : qpd [(p, c)] [(p, b)] [(p, b')] = true) (hg : b.ground = true) :
  EffW E o mem ev (.g r) ((c, b') :: mem) none := by
 intro w0 M0 ρ w e hm hx;obtain ⟨fn, h1, h2, h3⟩ := hk
 have hp : qr [(p, c)] p = some c := by simp [qr]
 obtain ⟨fs, cs, hef, hfs, hcs⟩ : (G.fn (.func f) [] cap).p w (zc M0 ρ) (e z) := by
  have := hx z (by rw [ho]; simp [Op.operands, Call.operands]);rw [hz] at this;exact hf _ _ _ this
 obtain rfl : fs = [] := by cases fs with
  | nil => rfl
  | cons => exact hfs.elim
 have h4 := hx x (by rw [ho]; simp [Op.operands, Call.operands]);rw [ha] at h4;obtain ⟨ow, q1, q2⟩ := h4
 have := qmg (res := (execOp e o).run E.P w) (vs := e x :: cs) [(p, c)] hc hm ⟨⟨c, hp, hl, hg⟩, trivial⟩ hσ (fun ρc hρ => ⟨⟨ow, (hρ p c hp).trans q1, q2⟩, qvn hcs⟩) (by
  simp [execOp, ho, resolve, hef, Deferred.ofValue, invoke, kp h1 h2 h3])
 have he : renM [(p, c)] [(p, b')] ++ mem = (c, b') :: mem := by simp [renM, hp]
 rwa [he] at this
end
end Go.Sim
