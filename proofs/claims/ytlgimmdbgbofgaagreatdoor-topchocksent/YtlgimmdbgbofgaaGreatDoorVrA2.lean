/-
  What is proved: lemmas and contracts of functions on the way to the law topChockSent (part 2).
-/
import Derived.Test.YtlgimmdbgbofgaaGreatDoorVrA1
import Derived.Lib.SplitLaws
import Derived.Lib.Join
import Derived.Lib.ItoaNum
set_option linter.unusedSectionVars false
set_option linter.unusedSimpArgs false
set_option linter.unusedVariables false
set_option linter.unnecessarySimpa false
set_option linter.deprecated false
namespace Go.Sim
section
variable {E : Env} {w0 : World} {M0 : Nat → Prop}
theorem flatten_len {α : Type} {k : Nat} : ∀ {xs : List (List α)}, (∀ c ∈ xs, c.length = k) → xs.flatten.length = xs.length * k
 | [], _ => by simp
 | c :: xs, h => by
  rw [List.flatten_cons, List.length_append, h c List.mem_cons_self, flatten_len fun c hc => h c (List.mem_cons_of_mem _ hc), List.length_cons, Nat.add_mul]
  omega
theorem flatten_take {k : Nat} : ∀ {xs : List (List G)} (i : Nat), (∀ c ∈ xs, c.length = k) → xs.flatten.take (i * k) = (xs.take i).flatten
 | _, 0, _ => by simp
 | [], i + 1, _ => by simp
 | c :: xs, i + 1, h => by
  have hc : c.length = k := h c List.mem_cons_self
  rw [List.flatten_cons, show (i + 1) * k = c.length + i * k by rw [hc, Nat.succ_mul]; omega, List.take_append, List.take_of_length_le (by omega), Nat.add_sub_cancel_left, List.take_succ_cons, List.flatten_cons,
   flatten_take i fun c hc => h c (List.mem_cons_of_mem _ hc)]
def appK (P : Program) (t : TypeId) : Option (TypeId × Nat × Nat) := match P.underlying t with
 | some (.slice e) => match P.info? e with
  | some i => match i.zero with
   | some z => if z.cells.size = i.size then some (e, i.size, i.bytes) else none
   | none => none
  | none => none
 | _ => none
theorem appK_spec {P : Program} {t e : TypeId} {k by_ : Nat} (h : appK P t = some (e, k, by_)) : ∃ i z, P.underlying t = some (.slice e) ∧ P.info? e = some i ∧ i.zero = some z ∧ i.size = k ∧ i.bytes = by_ ∧ z.cells.size = k := by
 unfold appK at h
 split at h
 ·rename_i e' he
  split at h
  ·rename_i i hi
   split at h
   ·rename_i z hz
    split at h
    ·rename_i hs
     simp at h
     obtain ⟨rfl, h2, h3⟩ := h;exact ⟨i, z, he, hi, hz, h2, h3, by rw [hs, h2]⟩
    ·cases h
   ·cases h
  ·cases h
 ·cases h
theorem own_of_blk {ρ : Rho} {w : World} {M : Nat → Prop} {id k : Nat} {e : TypeId} {xs : List (List G)} (h : BRel w M ρ id (.arr e k xs)) :
  ∃ x vs, ρ id = some x ∧ OwnS w e k x xs.length vs ∧ Fits w M xs.flatten vs ∧ (∀ c ∈ xs, c.length = k) := by
 rcases h with ⟨h1, rfl⟩ | ⟨ow, cur, h1, h2, h3, h4, h5, h6, h7⟩
 ·exact ⟨none, [], h1, .inl ⟨rfl, rfl, rfl⟩, trivial, by simp⟩
 ·exact ⟨some ow, _, h1, .inr ⟨ow, cur, rfl, h2, h3, h4, h5, rfl⟩, h7, h6⟩
theorem blk_of_own {ρ : Rho} {w : World} {M : Nat → Prop} {id k : Nat} {e : TypeId} {xs : List (List G)} {x : Option Own} {vs : List Value} (hr : ρ id = some x) (ho : OwnS w e k x xs.length vs) (hf : Fits w M xs.flatten vs) (hc : ∀ c ∈ xs, c.length = k) :
  BRel w M ρ id (.arr e k xs) := by
 rcases ho with ⟨rfl, h1, h2⟩ | ⟨ow, cur, rfl, h2, h3, h4, h5, h6⟩
 ·exact .inl ⟨hr, List.eq_nil_of_length_eq_zero h1⟩
 ·exact .inr ⟨ow, cur, hr, h2, h3, h4, h5, hc, by rw [h6]; exact hf⟩
def SrcT (E : Env) (mem : Mem) (k : Nat) (ys : List (List G)) (tv : TV) : Prop :=
 (∀ c ∈ ys, c.length = k) ∧ ∀ w0 M0 ρ w v, MRel E w0 M0 ρ mem w → TRel w (owned M0 ρ) ρ tv v → ∃ news, Fits w (owned M0 ρ) ys.flatten news ∧ SrcS w k ys.length news v
theorem src_sl {mem : Mem} {k : Nat} {ys : List (List G)} (hk : 0 < k) (hc : ∀ c ∈ ys, c.length = k) : SrcT E mem k ys (.g (.sl k ys)) := by
 refine ⟨hc, ?_⟩;intro w0 M0 ρ w v hm h;obtain ⟨a, cap, h1, h2, h3, h4, h5⟩ := h
 rcases h5 with ⟨h5, _⟩ | ⟨b, o, h5, h6, h7⟩
 ·have hl := flatten_len h4;rw [h5] at hl ⊢
  have hy : ys.length = 0 := by
   rcases Nat.mul_eq_zero.1 hl.symm with h | h
   ·exact h
   ·omega
  exact ⟨[], trivial, by rw [hy]; simp, a, cap, h1, .inl hy⟩
 ·obtain ⟨vs, h8, h9⟩ := h7.vals;exact ⟨vs, h8, by rw [h8.length, flatten_len h4], a, cap, h1, .inr ⟨b, o, h5, h9⟩⟩
theorem look_blk {ρ : Rho} {mem : Mem} {w : World} {id k : Nat} {e : TypeId} {xs : List (List G)} (hm : MRel E w0 M0 ρ mem w) (hb : lookO mem id = some (.arr e k xs)) :
  ∃ x vs, ρ id = some x ∧ OwnS w e k x xs.length vs ∧ Fits w (owned M0 ρ) xs.flatten vs ∧ (∀ c ∈ xs, c.length = k) := own_of_blk (hm.blk id _ hb)
theorem osl_view {ρ : Rho} {mem : Mem} {w : World} {id k lo hi : Nat} {e : TypeId} {xs : List (List G)} {v : Value} (hm : MRel E w0 M0 ρ mem w) (hb : lookO mem id = some (.arr e k xs)) (hv : TRel w (owned M0 ρ) ρ (.osl id k lo hi) v) (h1 : lo ≤ hi) (h2 : hi ≤ xs.length) :
  ∃ a cap, v = .slice a (hi - lo) cap ∧ hi - lo ≤ cap ∧ cap ≤ maxLen ∧ (a = none → cap = 0 ∧ hi - lo = 0) ∧ (xs.drop lo |>.take (hi - lo)).length = hi - lo ∧ (∀ c ∈ (xs.drop lo |>.take (hi - lo)), c.length = k) ∧
   (hi - lo = 0 ∨ ∃ b o, ∃ cur : Array Value, ∃ news, a = some ⟨b, o, none⟩ ∧ (∃ ow, ρ id = some (some ow) ∧ ow.b = b) ∧ w.heap[b]? = some (.cells cur e (0, 0)) ∧ Fits w (owned M0 ρ) (xs.drop lo |>.take (hi - lo)).flatten news ∧ (∀ j u, news[j]? = some u → cur[o + j]? = some u)) := by
 obtain ⟨x, vs, g1, g2, g3, g4⟩ := look_blk hm hb
 have hlen : (xs.drop lo |>.take (hi - lo)).length = hi - lo := by rw [List.length_take, List.length_drop]; omega
 have hk : ∀ c ∈ (xs.drop lo |>.take (hi - lo)), c.length = k := fun c hc => g4 c (List.mem_of_mem_drop (List.mem_of_mem_take hc))
 rcases hv with ⟨e1, rfl, rfl, rfl⟩ | ⟨ow, e1, e2, e3, p, rfl, hp⟩
 ·exact ⟨none, 0, rfl, Nat.le_refl _, Nat.zero_le _, fun _ => ⟨rfl, rfl⟩, hlen, hk, .inl rfl⟩
 ·have : x = some ow := by rw [e1] at g1; simpa using g1.symm
  subst this
  rcases g2 with ⟨g2, _⟩ | ⟨ow', cur, g5, g6, g7, g8, g9, g10⟩
  ·cases g2
  ·cases g5
   refine ⟨_, _, rfl, by omega, by omega, fun h => (by cases h), hlen, hk, (Nat.eq_zero_or_pos (hi - lo)).imp (fun h => h) fun hpos => by
    have hp := hp (by omega);subst hp;refine ⟨ow.b, ow.o + lo * k, cur, ((vs.drop (lo * k)).take ((hi - lo) * k)), rfl, ⟨ow, e1, rfl⟩, g6, ?_, ?_⟩
    ·have := (g3.drop (lo * k)).take ((hi - lo) * k);rw [flatten_drop lo g4, flatten_take (hi - lo) (fun c hc => g4 c (List.mem_of_mem_drop hc))] at this;exact this
    ·intro j u hj;rw [List.getElem?_take] at hj
     split at hj
     ·rename_i hjlt
      rw [List.getElem?_drop, ← g10, List.getElem?_take] at hj
      split at hj
      ·rw [List.getElem?_drop] at hj;rw [show ow.o + lo * k + j = ow.o + (lo * k + j) by omega]
       simpa using hj
      ·cases hj
     ·cases hj⟩
theorem src_osl {mem : Mem} {id k lo hi : Nat} {e : TypeId} {xs : List (List G)} (hb : lookO mem id = some (.arr e k xs)) (hc : ∀ c ∈ xs, c.length = k) (h1 : lo ≤ hi) (h2 : hi ≤ xs.length) : SrcT E mem k (xs.drop lo |>.take (hi - lo)) (.osl id k lo hi) := by
 refine ⟨fun c hc' => hc c (List.mem_of_mem_drop (List.mem_of_mem_take hc')), ?_⟩;intro w0 M0 ρ w v hm hv;obtain ⟨a, cap, rfl, _, _, _, hlen, hk, h3⟩ := osl_view hm hb hv h1 h2
 rcases h3 with h3 | ⟨b, o, cur, news, rfl, _, g1, g2, g3⟩
 ·have : (xs.drop lo |>.take (hi - lo)) = [] := List.eq_nil_of_length_eq_zero (by omega);rw [this];exact ⟨[], trivial, by simp, a, cap, by rw [h3]; rfl, .inl rfl⟩
 ·refine ⟨news, g2, by rw [g2.length, flatten_len hk], some ⟨b, o, none⟩, cap, by rw [hlen], .inr ⟨b, o, rfl, fun j u hj => ?_⟩⟩;rw [cell_of_row w _ _ _ _ _ g1];exact g3 j u hj
theorem upon_append {ρ : Rho} {mem : Mem} {w : World} {t e : TypeId} {k by_ id : Nat} {ts : TypeId} {xs ys : List (List G)} {x : Option Own} {vs : List Value} {v : Value} {tv : TV} (kill : Option Nat) (hm : MRel E w0 M0 ρ mem w) (ha : appK E.P t = some (e, k, by_)) (hk : 0 < k) (hby : 0 < by_)
  (hx : ρ id = none ∧ x = none ∨ ρ id = some x ∨ (kill = some id ∧ ∃ ow ow', ρ id = some (some ow) ∧ x = some ow' ∧ ow'.b = ow.b)) (hk' : kill = some id ∨ (kill = none ∧ ρ id = none)) (hrefs : ∀ i blk, lookO mem i = some blk → i ≠ id → blk.noref kill = true) (hbw : kill = none ∨ lookO E.bow id = none)
  (hown : OwnS w e k x xs.length vs) (hf : Fits w (owned M0 ρ) xs.flatten vs) (hc : ∀ c ∈ xs, c.length = k) (hsrc : SrcT E mem k ys tv) (hv : TRel w (owned M0 ρ) ρ tv v) (hb : (xs.length + ys.length) * by_ ≤ 140737488355328) :
  UponW E w0 M0 ρ w ((id, .arr e k (xs ++ ys)) :: mem) (.osl id k 0 (xs ++ ys).length) kill (((do pure (.value (← Builtin.append_ #[t, t] ts #[ownVal x xs.length, v]))) : Sem Next).run E.P w) := by
 obtain ⟨i, z, t1, t2, t3, t4, t5, t6⟩ := appK_spec ha;obtain ⟨news, n1, n2⟩ := hsrc.2 w0 M0 ρ w v hm hv
 have h63 : xs.length + ys.length ≤ maxLen := by
  have : xs.length + ys.length ≤ (xs.length + ys.length) * by_ := Nat.le_mul_of_pos_right _ hby;unfold maxLen; omega
 obtain ⟨x', w', r1, r2, r3, r4, r5, r6, r7, r8⟩ := run_app (P := E.P) (ty := ts) t1 t2 t3 t4 t6 hk hown n2 n1.one h63 (by rw [t5]; exact hb);rw [Sem.run_bind, r1]
 have hnew : ∀ o, x' = some o → (w.heap.size ≤ o.b ∨ ∃ ow, ρ id = some (some ow) ∧ ow.b = o.b) ∧ o.b < w'.heap.size := by
  intro o ho;obtain ⟨g1, g2⟩ := r8 o ho;refine ⟨?_, g2⟩
  rcases g1 with g1 | ⟨ow, g1, g3⟩
  ·exact .inl g1
  ·rcases hx with ⟨_, h⟩ | h | ⟨_, ow1, ow2, h, h', h''⟩
   ·rw [h] at g1; cases g1
   ·exact .inr ⟨ow, by rw [h, g1], g3⟩
   ·rw [h'] at g1; cases g1; exact .inr ⟨ow1, h, by rw [← h'', g3]⟩
 have hd : Diff ρ id w w' := by
  refine ⟨r5, r6, r7, r4, fun b hb hne => r3 b hb fun ow ho => ?_⟩
  rcases hx with ⟨_, h⟩ | h | ⟨_, ow1, ow2, h, h', h''⟩
  ·rw [h] at ho; cases ho
  ·exact hne ow (by rw [h, ho])
  ·rw [h'] at ho; cases ho; rw [h'']; exact hne ow1 h
 have hM : ∀ b, b < w.heap.size → owned M0 (rhoSet ρ id x') b → owned M0 ρ b := by
  rintro b hb (h | ⟨j, o, h, rfl⟩)
  ·exact .inl h
  ·by_cases hj : j = id
   ·subst hj; rw [rhoSet_same] at h;simp only [Option.some.injEq] at h
    rcases (hnew o h).1 with g | ⟨ow, g, g'⟩
    ·omega
    ·exact .inr ⟨j, ow, g, g'⟩
   ·exact .inr ⟨j, o, by simpa [rhoSet, hj] using h, rfl⟩
 have hh : ∀ b, b < w.heap.size → ¬ owned M0 ρ b → w'.heap[b]? = w.heap[b]? := fun b hb hno => hd.heap b hb fun ow ho he => hno (.inr ⟨id, ow, ho, he.symm⟩)
 have hfit : Fits w' (owned M0 (rhoSet ρ id x')) (xs ++ ys).flatten (vs ++ news) := by
  rw [List.flatten_append];exact (hf.append n1).mono hh hM
 have hall : ∀ c ∈ xs ++ ys, c.length = k := fun c hc' => by
  rcases List.mem_append.1 hc' with h | h
  ·exact hc c h
  ·exact hsrc.1 c h
 obtain ⟨k1, k2⟩ := mrel_upd (id := id) (x := x') (blk' := .arr e k (xs ++ ys)) kill hm hd hnew (by
   rcases hk' with h | ⟨h1, h2⟩
   ·exact .inl h
   ·exact .inr ⟨h1, .inl h2⟩) hrefs hbw (blk_of_own (rhoSet_same _ _ _) (by rw [List.length_append]; exact r2) hfit hall)
 refine ⟨_, k1, k2, ?_⟩;rw [List.length_append]
 cases x' with
 | none =>
  rcases r2 with ⟨_, h1, _⟩ | ⟨ow, _, h1, _⟩
  ·exact .inl ⟨rhoSet_same _ _ _, rfl, h1, rfl⟩
  ·cases h1
 | some ow =>
  rcases r2 with ⟨h1, _⟩ | ⟨ow', cur, h1, h2, h3, _⟩
  ·cases h1
  ·cases h1
   exact .inr ⟨ow, rhoSet_same _ _ _, Nat.zero_le _, h3, ow.o, by simp [ownVal], fun _ => by simp⟩
theorem eff_appO {o : Oper} {mem : Mem} {ev : Operand → TV} {s x : Operand} {t e : TypeId} {k by_ id lo hi : Nat} {xs ys : List (List G)} (ho : o.op = .call ⟨.builtin .append, #[s, x], #[t, t]⟩) (ha : appK E.P t = some (e, k + 1, by_ + 1)) (hs : ev s = .osl id (k + 1) lo hi)
  (hx : lookO mem id = some (.arr e (k + 1) xs)) (hlo : lo ≤ hi) (hhi : hi = xs.length) (hsrc : SrcT E mem (k + 1) ys (ev x)) (hrefs : ∀ i blk, lookO mem i = some blk → i ≠ id → blk.noref (some id) = true) (hb : (hi - lo + ys.length) * (by_ + 1) ≤ 140737488355328) (hbw : lookO E.bow id = none := by rfl) :
  EffW E o mem ev (.osl id (k + 1) 0 (xs.drop lo ++ ys).length) ((id, .arr e (k + 1) (xs.drop lo ++ ys)) :: mem) (some id) := by
 intro w0 M0 ρ w e' hm he;have h1 := he s (by rw [ho]; simp [Op.operands, Call.operands]);rw [hs] at h1;have h2 := he x (by rw [ho]; simp [Op.operands, Call.operands]);obtain ⟨x0, vs, g1, g2, g3, g4⟩ := look_blk hm hx
 have hlen : (xs.drop lo).length = hi - lo := by rw [List.length_drop]; omega
 have hc : ∀ c ∈ xs.drop lo, c.length = k + 1 := fun c hc => g4 c (List.mem_of_mem_drop hc)
 have key : ∃ x, e' s = ownVal x (hi - lo) ∧ (ρ id = some x ∨ ∃ ow ow', ρ id = some (some ow) ∧ x = some ow' ∧ ow'.b = ow.b) ∧ ∃ vs', OwnS w e (k + 1) x (hi - lo) vs' ∧ Fits w (owned M0 ρ) (xs.drop lo).flatten vs' := by
  rcases h1 with ⟨e1, rfl, e3, e4⟩ | ⟨ow, e1, e2, e3, p, e4, hp⟩
  ·refine ⟨none, by rw [e4, e3]; rfl, .inl e1, vs, ?_, by simpa using g3⟩
   have : x0 = none := by rw [e1] at g1; simpa using g1.symm
   subst this;rw [← hhi] at g2
   simpa using g2
  ·have : x0 = some ow := by rw [e1] at g1; simpa using g1.symm
   subst this
   rcases g2 with ⟨g2, _⟩ | ⟨ow', cur, g5, g6, g7, g8, g9, g10⟩
   ·cases g2
   ·cases g5
    by_cases hc0 : lo < ow.cap
    ·have hp := hp hc0;subst hp;refine ⟨some ⟨ow.b, ow.o + lo * (k + 1), ow.cap - lo⟩, e4, .inr ⟨ow, _, e1, rfl, rfl⟩, vs.drop (lo * (k + 1)), .inr ⟨_, cur, rfl, g6, by show hi - lo ≤ ow.cap - lo; omega, by show ow.cap - lo ≤ maxLen; omega, ?_, ?_⟩, ?_⟩
     ·refine .inr ?_;show ow.o + lo * (k + 1) + (ow.cap - lo) * (k + 1) ≤ cur.size;refine Nat.le_trans ?_ (g9.resolve_left (by omega));rw [Nat.sub_mul];have : lo * (k + 1) ≤ ow.cap * (k + 1) := Nat.mul_le_mul_right _ (by omega)
      omega
     ·show (cur.toList.drop (ow.o + lo * (k + 1))).take ((hi - lo) * (k + 1)) = _;rw [← g10, List.drop_take, List.drop_drop, Nat.sub_mul, hhi]
     ·rw [← flatten_drop lo g4]; exact g3.drop _
    ·have h0 : hi - lo = 0 := by omega
     have hnil : xs.drop lo = [] := List.drop_eq_nil_of_le (by omega);refine ⟨some ⟨ow.b, p, ow.cap - lo⟩, e4, .inr ⟨ow, _, e1, rfl, rfl⟩, [], .inr ⟨_, cur, rfl, g6, by show hi - lo ≤ ow.cap - lo; omega, by show ow.cap - lo ≤ maxLen; omega, ?_, ?_⟩, ?_⟩
     ·exact .inl (show ow.cap - lo = 0 by omega)
     ·rw [h0]; simp
     ·rw [hnil]; trivial
 obtain ⟨q, k1, k2, vs', k3, k4⟩ := key
 have := upon_append (xs := xs.drop lo) (x := q) (vs := vs') (ts := o.type) (some id) hm ha (Nat.succ_pos k) (Nat.succ_pos _) (by
   rcases k2 with h | ⟨ow, ow', h⟩
   ·exact .inr (.inl h)
   ·exact .inr (.inr ⟨rfl, ow, ow', h⟩)) (.inl rfl) hrefs (.inr hbw) (by rw [hlen]; exact k3) k4 hc hsrc h2 (by rw [hlen]; exact hb)
 rw [hlen] at this
 have hrun : (execOp e' o) = (do pure (.value (← Builtin.append_ #[t, t] o.type #[ownVal q (hi - lo), e' x])) : Sem Next) := by simp [execOp, ho, resolve, invoke, builtin, k1]
 rw [hrun];exact this
end
section
variable {E : Env} {w0 : World} {M0 : Nat → Prop}
theorem eff_lenO {o : Oper} {ev : Operand → TV} {t el : TypeId} {x : Operand} {id k lo hi : Nat} (ho : o.op = .call ⟨.builtin .len, #[x], #[t]⟩) (ht : E.P.underlying t = some (.slice el)) (hx : ev x = .osl id k lo hi) (mem : Mem) : Eff E o mem ev (.g (.int ((hi - lo : Nat) : Int))) :=
  eff_same (fun w M ρ e hev => by
    have h1 := hev x (by rw [ho]; simp [Op.operands, Call.operands])
    rw [hx] at h1
    have : ∃ a c, e x = .slice a (hi - lo) c := by
      rcases h1 with ⟨_, rfl, rfl, h⟩ | ⟨ow, _, _, _, _, h, _⟩
      · exact ⟨_, _, h⟩
      · exact ⟨_, _, h⟩
    obtain ⟨a, c, h⟩ := this
    refine ⟨.int .i64 (hi - lo : Nat), ?_, rfl⟩
    simp [execOp, ho, resolve, invoke, builtin, Builtin.len_, underlying, ht, h, goInt]) mem
theorem eff_indexO {o : Oper} {mem : Mem} {ev : Operand → TV} {t el : TypeId} {x ix : Operand} {k id lo hi : Nat} {b : Bool} {kk : IntKind} {n : Int} (ho : o.op = .indexAddr t x ix)
    (ht : E.P.underlying t = some (.slice el)) (he : tyK E.P el = some (k + 1, b)) (hx : ev x = .osl id (k + 1) lo hi) (hi' : ev ix = .g (.lit (.int kk n))) (h0 : 0 ≤ n) (hn : n.toNat < hi - lo) :
    Eff E o mem ev (.eptr id (k + 1) (lo + n.toNat) 0) := by
  intro w0 M0 ρ w e' hm hev
  have h1 := hev x (by rw [ho]; simp [Op.operands])
  rw [hx] at h1
  have h2 := hev ix (by rw [ho]; simp [Op.operands])
  rw [hi'] at h2
  have h2' : e' ix = .int kk n := h2
  rcases h1 with ⟨_, rfl, rfl, _⟩ | ⟨ow, g1, g2, g3, p, g4, hp⟩
  · omega
  · have hp := hp (by omega)
    subst hp
    have hn' : n < ((hi - lo : Nat) : Int) := by omega
    have hrun : (execOp e' o).run E.P w = .ok (.value (.pointer (some ⟨ow.b, ow.o + (lo + n.toNat) * (k + 1), none⟩))) w := by
      simp only [execOp, ho, g4, h2']
      simp [Instr.indexAt, asIntOf, underlying, ht, run_sizeOf he, h0, hn', Addr.add_lit]
      rw [Nat.add_mul]; omega
    rw [hrun]
    exact ⟨Grow.refl w, ow, g1, by simp⟩
theorem arr_cell {ρ : Rho} {w : World} {mem : Mem} {id k i j : Nat} {e : TypeId} {xs : List (List G)} {c : List G} {g : G} {ow : Own} (hm : MRel E w0 M0 ρ mem w) (hb : lookO mem id = some (.arr e k xs)) (ho : ρ id = some (some ow)) (hi : xs[i]? = some c) (hj : c[j]? = some g) :
    ∃ v, w.cell? ⟨ow.b, ow.o + i * k + j, none⟩ = some v ∧ g.p w (owned M0 ρ) v ∧ v.oneCell' = true := by
  rcases hm.blk id _ hb with ⟨h1, _⟩ | ⟨ow', cur, h1, h2, h3, h4, h5, h6, h7⟩
  · rw [ho] at h1; cases h1
  · have : ow' = ow := by rw [ho] at h1; simpa using h1.symm
    subst this
    have hlt : i < xs.length := (List.getElem?_eq_some_iff.1 hi).1
    have hjlt : j < c.length := (List.getElem?_eq_some_iff.1 hj).1
    have hck : c.length = k := h6 c (List.mem_of_getElem? hi)
    have hget : xs.flatten[i * k + j]? = some g := by
      rw [← List.getElem?_drop, flatten_drop i h6, List.drop_eq_getElem_cons hlt, List.flatten_cons, (List.getElem?_eq_some_iff.1 hi).2, List.getElem?_append_left hjlt]
      exact hj
    obtain ⟨v, g1, g2, g3⟩ := Fits.get (i * k + j) h7 hget
    refine ⟨v, ?_, g2, g3⟩
    rw [cell_of_row w _ _ _ _ _ h2]
    rw [List.getElem?_take] at g1
    split at g1
    · rw [List.getElem?_drop] at g1
      rw [show ow'.o + i * k + j = ow'.o + (i * k + j) by omega]
      simpa using g1
    · cases g1
class Pure (x : G) : Prop where
  pure : ∀ {w M v w' M'}, x.p w M v → x.p w' M' v
instance (v : Value) : Pure (.lit v) := ⟨fun h => h⟩
def viewG (mem : Mem) : TV → Option G
  | .g x => some x
  | .osl id k lo hi => match lookO mem id with
    | some (.arr _ k' xs) => if k = k' ∧ lo ≤ hi ∧ hi ≤ xs.length then some (.sl k (xs.drop lo |>.take (hi - lo))) else none
    | _ => none
  | _ => none
def viewB (E : Env) : TV → Bool
  | .osl id _ _ _ => (lookO E.bow id).isNone && strictB E
  | _ => true
theorem not_lent {ρ : Rho} {mem : Mem} {w : World} (hm : MRel E w0 M0 ρ mem w) {id : Nat} {ow : Own} (h : ρ id = some (some ow)) (hb : lookO E.bow id = none) (hst : strictB E = true) : ¬ (M0 ow.b ∨ E.lentK ow.b) := by
  have hl : ¬ E.lentK ow.b := by
    rintro ⟨id2, ow2, h2, h3⟩
    have := hm.inj id2 id ow2 ow (hm.keep id2 _ h2) h h3
    subst this
    rw [hb] at h2; cases h2
  rintro (h1 | h1)
  · rcases (hm.fresh id ow h).1 with h2 | h2
    · have := hm.m0 _ h1; omega
    · exact hl (lentK_of hst h2)
  · exact hl h1
structure MSub (E : Env) (M0 : Nat → Prop) (ρ : Rho) (M' : Nat → Prop) (tv : TV) : Prop where
  sub : ∀ b, M' b → owned M0 ρ b
  no : ∀ id k lo hi ow, tv = .osl id k lo hi → ρ id = some (some ow) → ¬ M' ow.b
theorem msub_no {ρ : Rho} (tv : TV) : MSub E M0 ρ (fun _ => False) tv := ⟨fun _ h => h.elim, fun _ _ _ _ _ _ _ h => h⟩
theorem msub_res {ρ : Rho} {mem : Mem} {w : World} (hm : MRel E w0 M0 ρ mem w) {tv : TV} (hb : viewB E tv = true) : MSub E M0 ρ (fun b => M0 b ∨ E.lentK b) tv :=
  ⟨fun b h => by
    rcases h with h | ⟨id, ow, h, rfl⟩
    · exact .inl h
    · exact .inr ⟨id, ow, hm.keep id _ h, rfl⟩,
   fun id k lo hi ow e h => by
     subst e
     simp only [viewB, Bool.and_eq_true, Option.isNone_iff_eq_none] at hb
     exact not_lent hm h hb.1 hb.2⟩
theorem view_rel {ρ : Rho} {mem : Mem} {w : World} {tv : TV} {v : Value} {g : G} (hm : MRel E w0 M0 ρ mem w) (h : TRel w (owned M0 ρ) ρ tv v) (hg : viewG mem tv = some g) {M' : Nat → Prop} (hM' : MSub E M0 ρ M' tv) : g.p w M' v := by
  have hM : ∀ b, b < w.heap.size → M' b → owned M0 ρ b := fun b _ h => hM'.sub b h
  cases tv with
  | g x => simp only [viewG, Option.some.injEq] at hg; subst hg; exact x.mono h (fun _ _ _ => rfl) hM
  | osl id k lo hi =>
    simp only [viewG] at hg
    split at hg
    · rename_i e k' xs hb
      split at hg
      · rename_i hc
        obtain ⟨rfl, h1, h2⟩ := hc
        simp only [Option.some.injEq] at hg
        subst hg
        obtain ⟨a, cap, rfl, g1, g2, g3, g4, g5, g6⟩ := osl_view hm hb h h1 h2
        refine ⟨a, cap, by rw [g4], by rw [g4]; exact g1, g2, g5, ?_⟩
        rcases g6 with g6 | ⟨b, o, cur, news, rfl, k0, k1, k2, k3⟩
        · left
          have : (xs.drop lo |>.take (hi - lo)) = [] := List.eq_nil_of_length_eq_zero (by omega)
          rw [this]
          exact ⟨rfl, fun ha => (g3 ha).1⟩
        · obtain ⟨ow, k0, rfl⟩ := k0
          exact .inr ⟨ow.b, o, rfl, hM'.no _ _ _ _ ow rfl k0, cells_of_fits k1 (k2.mono (fun _ _ _ => rfl) hM) k3⟩
      · cases hg
    · cases hg
  | _ => simp [viewG] at hg
theorem fits_of_view {ρ : Rho} {mem : Mem} {w : World} {ev : Operand → TV} {e : Operand → Value} (hm : MRel E w0 M0 ρ mem w) : ∀ {as : List Operand} {args : List G}, (∀ x ∈ as, TRel w (owned M0 ρ) ρ (ev x) (e x)) → as.map (fun x => viewG mem (ev x)) = args.map some → FitsT w (fun _ => False) args (as.map e)
  | [], [], _, _ => trivial
  | x :: as, y :: args, h, he => by
    simp only [List.map_cons, List.cons.injEq] at he
    exact ⟨view_rel hm (h x List.mem_cons_self) he.1 (msub_no _), fits_of_view hm (fun z hz => h z (List.mem_cons_of_mem _ hz)) he.2⟩
  | [], _ :: _, _, he => by simp at he
  | _ :: _, [], _, he => by simp at he
theorem eff_callO {o : Oper} {mem : Mem} {ev : Operand → TV} {f : FuncId} {as : Array Operand} {ts : Array TypeId} {args : List G} {r : G} [Pure r] (ho : o.op = .call ⟨.value (.func f), as, ts⟩)
    (hk : Known E.P f) (hev : ev (.func f) = .g (.lit (.func (.func f) #[] #[]))) (hc : Con E f args r) (ha : as.toList.map (fun x => viewG mem (ev x)) = args.map some) : Eff E o mem ev (.g r) := by
  intro w0 M0 ρ w e hm hx
  obtain ⟨fn, h1, h2, h3⟩ := hk
  have hef : e (.func f) = .func (.func f) #[] #[] := by
    have := hx (.func f) (by rw [ho]; simp [Op.operands, Call.operands])
    rw [hev] at this
    exact this
  have hv : FitsT w (fun _ => False) args (as.toList.map e) := fits_of_view hm (fun x hx' => hx x (by rw [ho]; simp [Op.operands, Call.operands]; exact .inr (by simpa using hx'))) ha
  have hgl : GlOk E w (fun _ => False) := fun g vs hg => ⟨⟨fun h => h, (hm.glob g vs hg).1.2⟩, (hm.glob g vs hg).2.mono (fun _ _ _ => rfl) (fun _ _ h => h.elim) (hm.glob g vs hg).1.1⟩
  have hrun : (execOp e o).run E.P w = .ok (.enter f (as.toList.map e).toArray) w := by
    simp [execOp, ho, resolve, hef, Deferred.ofValue, invoke, run_callFunc h1 h2 h3, ← Array.toList_map]
  rw [hrun]
  refine (hc w (fun _ => False) _ (fun _ h => h.elim) hgl hv).mono ?_
  rintro e' w' ⟨v, rfl, g1, g2⟩
  exact ⟨v, rfl, g1, Pure.pure g2⟩
theorem rv_view {s : ASt} {t : Nat} {g : G} (h : viewG s.mem (s.get t) = some g) (hb : viewB E (s.get t) = true := by rfl) : RVal E s (.tmp t) g := by
  intro w0 M0 ρ w tmps hm ht
  exact ⟨tmps.getD t undef, rfl, view_rel hm (ht t) h (msub_res hm hb), fun _ _ => rfl⟩
def viewL (mem : Mem) : List TV → Option (List G)
  | [] => some []
  | x :: xs => match viewG mem x, viewL mem xs with
    | some g, some gs => some (g :: gs)
    | _, _ => none
theorem viewL_rel {ρ : Rho} {mem : Mem} {w : World} {M' : Nat → Prop} (hm : MRel E w0 M0 ρ mem w) : ∀ {cs : List TV} {vs : List Value} {gs : List G}, (∀ c ∈ cs, MSub E M0 ρ M' c) → TFits w (owned M0 ρ) ρ cs vs → viewL mem cs = some gs → Fits w M' gs vs
  | [], [], gs, _, _, h => by simp only [viewL, Option.some.injEq] at h; subst h; trivial
  | c :: cs, v :: vs, gs, hM', hf, h => by
    simp only [viewL] at h
    split at h
    · rename_i g gs' h1 h2
      simp only [Option.some.injEq] at h
      subst h
      exact ⟨⟨view_rel hm hf.1.1 h1 (hM' _ List.mem_cons_self), hf.1.2⟩, viewL_rel hm (fun c hc => hM' c (List.mem_cons_of_mem _ hc)) hf.2 h2⟩
    · cases h
  | [], _ :: _, _, _, h, _ => h.elim
  | _ :: _, [], _, _, h, _ => h.elim
theorem rv_cell {s : ASt} {t : Nat} {ty : TypeId} {k id : Nat} {cs : List TV} {gs : List G} (hp : s.get t = .ptr id 0) (hb : lookO s.mem id = some (.box cs)) (ht : tyK E.P ty = some (k, true)) (hl : cs.length = k) (hv : viewL s.mem cs = some gs) (hbw : cs.all (viewB E) = true := by rfl) : RVal E s (.cell t ty) (.agg gs) := by
  intro w0 M0 ρ w tmps hm hx
  have h1 := hx t
  rw [hp] at h1
  obtain ⟨ow, h2, h3⟩ := h1
  obtain ⟨ow', e, vs, g1, g2, g3, g4⟩ := hm.blk id _ hb
  have : ow' = ow := by rw [h2] at g1; simpa using g1.symm
  subst this
  have hc : ∀ j v, vs[j]? = some v → w.cell? ⟨ow'.b, ow'.o + 0 + j, none⟩ = some v := by
    intro j v hj
    rw [cell_of_row w _ _ _ _ _ g3, g2]
    simpa using hj
  refine ⟨.agg vs.toArray, ?_, ⟨vs, rfl, viewL_rel hm (fun c hc => msub_res hm (List.all_eq_true.1 hbw c hc)) g4 hv⟩, ?_⟩
  · simp only [rvSem, h3, asAddr, Sem.run_bind, Sem.run_pure, Result.andThen_ok]
    exact run_loadVar_agg ht (g4.length.trans hl) hc
  · intro w' hw
    simp only [rvSem, h3, asAddr, Sem.run_bind, Sem.run_pure, Result.andThen_ok]
    exact run_loadVar_agg ht (g4.length.trans hl) fun j v hj => hw _ _ (hc j v hj)
theorem rv_e {s : ASt} {rv : ResultVar} {x y : G} (h : RVal E s rv x) (he : x = y) : RVal E s rv y := he ▸ h
theorem res_e {fn : Func} {s : ASt} {x y : G} (h : ResOk E fn s x) (he : x = y) : ResOk E fn s y := he ▸ h
theorem res_c {fn : Func} {s : ASt} {rv : ResultVar} {x : G} (hr : fn.results = #[rv]) (h : RVal E s rv x) : ResOk E fn s x :=
  ⟨[x], by rw [hr]; exact ⟨h, trivial⟩, .inl ⟨x, rfl, rfl⟩⟩
end
section
variable {E : Env} {w0 : World} {M0 : Nat → Prop} {ops : Array Oper} {o : Oper} {os : List Oper} {cs : List Cls} {s : ASt} {K : ASt → Prop} {r : TV}
theorem st_w {d : Nat} {m : Mem} (hd : o.dst = some d) (hg : o.guard = none) (he : EffW E o s.mem (s.eval E) r m none) (hn : Nat.blt d s.n = true) (hk : AOps E ops os cs ⟨s.n, upd d r s.tmps, m⟩ K) : AOps E ops (o :: os) (.w :: cs) s K :=
 ⟨⟨s.n, upd d r s.tmps, m⟩, ⟨fun d' h => by rw [hd] at h; cases h; exact Nat.le_of_ble_eq_true hn, true, r, m, none, by unfold Wanted; rw [hg], fun _ => ⟨rfl, he⟩, (by intro h; cases h), by rw [hd]; rfl⟩, hk⟩
theorem st_wn {m : Mem} (hd : o.dst = none) (hg : o.guard = none) (he : EffW E o s.mem (s.eval E) r m none) (hk : AOps E ops os cs ⟨s.n, s.tmps, m⟩ K) : AOps E ops (o :: os) (.w :: cs) s K :=
 ⟨⟨s.n, s.tmps, m⟩, ⟨(fun d' h => by rw [hd] at h; cases h), true, r, m, none, by unfold Wanted; rw [hg], fun _ => ⟨rfl, he⟩, (by intro h; cases h), by rw [hd]; rfl⟩, hk⟩
theorem st_k {d i : Nat} {m : Mem} (hd : o.dst = some d) (hg : o.guard = none) (he : EffW E o s.mem (s.eval E) r m (some i)) (hn : Nat.blt d s.n = true) (hk : AOps E ops os cs ⟨s.n, upd d r (killT (some i) s.tmps), m⟩ K) : AOps E ops (o :: os) (.k :: cs) s K :=
 ⟨⟨s.n, upd d r (killT (some i) s.tmps), m⟩, ⟨fun d' h => by rw [hd] at h; cases h; exact Nat.le_of_ble_eq_true hn, true, r, m, some i, by unfold Wanted; rw [hg], fun _ => he, (by intro h; cases h), by rw [hd]; rfl⟩, hk⟩
section
variable {ev : Operand → TV} {x : Operand}
theorem eff_moveP {id p : Nat} (ho : o.op = .move x) (h : ev x = .ptr id p) (mem : Mem) : Eff E o mem ev (.ptr id p) := eff_move ho h mem
theorem eff_moveO {id k i p : Nat} (ho : o.op = .move x) (h : ev x = .osl id k i p) (mem : Mem) : Eff E o mem ev (.osl id k i p) := eff_move ho h mem
theorem eff_moveM {id : Nat} (ho : o.op = .move x) (h : ev x = .omap id) (mem : Mem) : Eff E o mem ev (.omap id) := eff_move ho h mem
theorem eff_assignO {id k i p : Nat} (ho : o.op = .assign x) (h : ev x = .osl id k i p) (mem : Mem) : Eff E o mem ev (.osl id k i p) := eff_assign ho h mem
theorem eff_assignM {id : Nat} (ho : o.op = .assign x) (h : ev x = .omap id) (mem : Mem) : Eff E o mem ev (.omap id) := eff_assign ho h mem
end
theorem ag_nil {ev : Operand → TV} : List.map ev [] = List.map TV.g [] := rfl
theorem ag_cons {ev : Operand → TV} {x : Operand} {xs : List Operand} {y : G} {ys : List G} (h : ev x = .g y) (k : List.map ev xs = List.map TV.g ys) : List.map ev (x :: xs) = List.map TV.g (y :: ys) := by
 rw [List.map_cons, List.map_cons, h, k]
theorem pb_nil {ev : Operand → TV} : PartsG ev [] [] := trivial
theorem pb_cons {ev : Operand → TV} {i : Nat} {x : Operand} {ps : List (Nat × Operand)} {qs : List (Nat × List G)} {y : G} {c : List G} (h : ev x = .g y) [hp : PartIs y c] (k : PartsG ev ps qs) : PartsG ev ((i, x) :: ps) ((i, c) :: qs) :=
 ⟨rfl, ⟨y, h, ⟨hp⟩⟩, k⟩
theorem ps_nil {ev : Operand → TV} {i : Nat} : PartsG ev [] (seqParts i []) := trivial
theorem ps_cons {ev : Operand → TV} {i : Nat} {x : Operand} {ps : List (Nat × Operand)} {xs : List (List G)} {y : G} {c : List G} (h : ev x = .g y) [hp : PartIs y c] (k : PartsG ev ps (seqParts (i + 1) xs)) : PartsG ev ((i, x) :: ps) (seqParts i (c :: xs)) :=
 ⟨rfl, ⟨y, h, ⟨hp⟩⟩, k⟩
def lensB (k : Nat) (xs : List (List G)) : Bool := xs.all fun c => Nat.beq c.length k
theorem lens {k : Nat} {xs : List (List G)} (h : lensB k xs = true) : ∀ c ∈ xs, c.length = k := by
 intro c hc;have := List.all_eq_true.1 h c hc;exact Nat.eq_of_beq_eq_true this
theorem src_eq {mem : Mem} {k : Nat} {ys : List (List G)} {tv tv' : TV} (h : tv' = tv) (hs : SrcT E mem k ys tv) : SrcT E mem k ys tv' := h ▸ hs
theorem refsN {id : Nat} {mem : Mem} (h : (mem.all fun p => Nat.beq p.1 id || p.2.noref (some id)) = true) : ∀ i blk, lookO mem i = some blk → i ≠ id → blk.noref (some id) = true := by
 intro i blk hb hne;have := List.all_eq_true.1 h (i, blk) (lookO_mem _ hb);simp only [Bool.or_eq_true] at this
 rcases this with h1 | h1
 ·exact absurd (Nat.eq_of_beq_eq_true h1) hne
 ·exact h1
theorem eff_max {ev : Operand → TV} {x y : Operand} {ts : Array TypeId} {a b : Int} (ho : o.op = .call ⟨.builtin .max, #[x, y], ts⟩) (hx : ev x = .g (.int a)) (hy : ev y = .g (.int b)) (mem : Mem) : Eff E o mem ev (.g (.int (max a b))) :=
 eff_same (fun w M ρ e he => by
  have h1 := he x (by rw [ho]; simp [Op.operands, Call.operands]);rw [hx] at h1;have h1' : e x = .int .i64 a := h1;have h2 := he y (by rw [ho]; simp [Op.operands, Call.operands]);rw [hy] at h2;have h2' : e y = .int .i64 b := h2;refine ⟨.int .i64 (max a b), ?_, rfl⟩
  simp [execOp, ho, resolve, invoke, builtin, h1', h2', run_max_int2]
  omega) mem
theorem eff_min {ev : Operand → TV} {x y : Operand} {ts : Array TypeId} {a b : Int} (ho : o.op = .call ⟨.builtin .min, #[x, y], ts⟩) (hx : ev x = .g (.int a)) (hy : ev y = .g (.int b)) (mem : Mem) : Eff E o mem ev (.g (.int (min a b))) :=
 eff_same (fun w M ρ e he => by
  have h1 := he x (by rw [ho]; simp [Op.operands, Call.operands]);rw [hx] at h1;have h1' : e x = .int .i64 a := h1;have h2 := he y (by rw [ho]; simp [Op.operands, Call.operands]);rw [hy] at h2;have h2' : e y = .int .i64 b := h2;refine ⟨.int .i64 (min a b), ?_, rfl⟩
  simp [execOp, ho, resolve, invoke, builtin, h1', h2', run_min_int2]
  omega) mem
end
section
variable {E : Env} {w0 : World} {M0 : Nat → Prop}
theorem aw_sl {c : Code} {Q : Exit → ASt → Prop} {s : ASt} (t : Nat) {k : Nat} {xs : List (List G)} (h : s.get t = .g (.sl k xs)) (hk : xs.length ≤ 9223372036854775807 → AWp E w0 M0 c Q s) : AWp E w0 M0 c Q s := by
 intro a w ha;obtain ⟨ρ, _, _, ht⟩ := ha.ex;have := ht t;rw [h] at this;obtain ⟨_, cap, _, h2, h3, _⟩ := this;exact hk (Nat.le_trans h2 (by simpa [maxLen] using h3)) a w ha
theorem eff_makeF {o : Oper} {ev : Operand → TV} {f : Fn} {first cap : Array Operand} {fs cs : List G} (ho : o.op = .makeFunc f first cap) (hf : ungs (first.toList.map ev) = some fs) (hc : ungs (cap.toList.map ev) = some cs) (mem : Mem) : Eff E o mem ev (.g (.fn f fs cs)) :=
 eff_makeFunc ho (ungs_eq hf) (ungs_eq hc) mem
end
section
variable {E : Env} {ops : Array Oper} {o : Oper} {os : List Oper} {cs : List Cls} {s : ASt} {K : ASt → Prop} {r : TV}
theorem st_pn {d i : Nat} (hd : o.dst = some d) (hg : o.guard = none) (he : ∀ mem, Eff E o mem (s.eval E) r) (hop : (o.op.operands.toList.all fun x => noname i (s.eval E x)) = true) (hr : noname i r = true) (hn : Nat.blt d s.n = true) (hk : AOps E ops os cs (s.put (some d) r) K) : AOps E ops (o :: os) (.pn i :: cs) s K :=
 ⟨s.put (some d) r, ⟨fun d' h => by rw [hd] at h; cases h; exact Nat.le_of_ble_eq_true hn, true, r, s.mem, none, by unfold Wanted; rw [hg], fun _ => ⟨rfl, rfl, he, fun x hx => List.all_eq_true.1 hop x (by simpa using hx), hr⟩, (by intro h; cases h), by rw [hd]; rfl⟩, hk⟩
theorem st_kn {d i : Nat} {m : Mem} (hd : o.dst = some d) (hg : o.guard = none) (he : EffW E o s.mem (s.eval E) r m (some i)) (hn : Nat.blt d s.n = true) (hk : AOps E ops os cs ⟨s.n, upd d r (killT (some i) s.tmps), m⟩ K) (hl : ∀ k, k ≠ i → SameTb s.mem m k := by exact fun k hk_ => .inl (lookO_ne (Ne.symm hk_))) : AOps E ops (o :: os) (.kn i :: cs) s K :=
 ⟨⟨s.n, upd d r (killT (some i) s.tmps), m⟩, ⟨fun d' h => by rw [hd] at h; cases h; exact Nat.le_of_ble_eq_true hn, true, r, m, some i, by unfold Wanted; rw [hg], fun _ => ⟨rfl, he, hl⟩, (by intro h; cases h), by rw [hd]; rfl⟩, hk⟩
end
inductive SK where
 | int (k : IntKind)
 | str
 | bool
 deriving DecidableEq
def kindV : Value → Option SK
 | .int k _ => some (.int k)
 | .string _ => some .str
 | .bool _ => some .bool
 | _ => none
def eqV : Value → Value → Bool
 | .int _ a, .int _ b => decide (a = b)
 | .string a, .string b => decide (a = b)
 | .bool a, .bool b => decide (a = b)
 | _, _ => false
def eqL : List Value → List Value → Bool
 | [], [] => true
 | a :: l, b :: m => eqV a b && eqL l m
 | _, _ => false
theorem eqL_append : ∀ {a a' b b' : List Value}, a.length = a'.length → eqL (a ++ b) (a' ++ b') = (eqL a a' && eqL b b')
 | [], [], b, b', _ => by simp [eqL]
 | x :: a, y :: a', b, b', h => by
  simp only [List.cons_append, eqL];rw [eqL_append (by simpa using h), Bool.and_assoc]
 | [], _ :: _, _, _, h => by simp at h
 | _ :: _, [], _, _, h => by simp at h
def fieldOk (P : Program) (t : TypeId) (m : Nat) : Bool := match tyK P t with | some (n, b) => n == m && (b == (match P.underlying t with | some (.struct _) => true | _ => false)) | none => false
def flatF (P : Program) (fk : TypeId → Option (List SK)) : Nat → List Field → Option (List SK)
 | _, [] => some []
 | p, f :: fs => if f.name = "_" ∨ f.offset ≠ p then none else match fk f.type with
  | none => none
  | some ks => if fieldOk P f.type ks.length = true then
    (flatF P fk (p + ks.length) fs).map (ks ++ ·) else none
def flatK (P : Program) : Nat → TypeId → Option (List SK)
 | 0, _ => none
 | d + 1, t => match P.underlying t with
  | some (.int k) => some [.int k]
  | some .string => some [.str]
  | some .bool => some [.bool]
  | some (.struct fs) => if P.stoodInHeld t then none else flatF P (flatK P d) 0 fs.toList
  | _ => none
def valOf (P : Program) (t : TypeId) (vs : List Value) : Value := match P.underlying t with
 | some (.struct _) => .agg vs.toArray
 | _ => vs.headD undef
section
variable {P : Program}
theorem kinds_split {ks ks' : List SK} {vs : List Value} (h : vs.map kindV = (ks ++ ks').map some) : (vs.take ks.length).map kindV = ks.map some ∧ (vs.drop ks.length).map kindV = ks'.map some := by
 constructor
 ·rw [List.map_take, h, List.map_append, List.take_left' (by simp)]
 ·rw [List.map_drop, h, List.map_append, List.drop_left' (by simp)]
theorem kinds_one {k : SK} {vs : List Value} (h : vs.map kindV = [k].map some) : ∃ v, vs = [v] ∧ kindV v = some k := by
 match vs, h with
 | [v], h => exact ⟨v, rfl, by simpa using h⟩
 | [], h => simp at h
 | _ :: _ :: _, h => simp at h
theorem kind_int {k : IntKind} {v : Value} (h : kindV v = some (.int k)) : ∃ a, v = .int k a := by
 cases v <;> simp [kindV] at h
 subst h;exact ⟨_, rfl⟩
theorem kind_str {v : Value} (h : kindV v = some .str) : ∃ a, v = .string a := by
 cases v <;> simp [kindV] at h
 exact ⟨_, rfl⟩
theorem kind_bool {v : Value} (h : kindV v = some .bool) : ∃ a, v = .bool a := by
 cases v <;> simp [kindV] at h
 exact ⟨_, rfl⟩
def FlatRun (P : Program) (d : Nat) : Prop := ∀ (t : TypeId) (ks : List SK) (vs us : List Value) (D : Nat) (w : World), flatK P d t = some ks → d ≤ D → vs.map kindV = ks.map some → us.map kindV = ks.map some →
  (Op.equalIn D t (valOf P t vs) (valOf P t us)).run P w = .ok (eqL vs us) w
theorem run_part {d : Nat} {t : TypeId} {off : Nat} {k1 : List SK} (hk1 : flatK P d t = some k1) (hty : fieldOk P t k1.length = true) (w : World) (xs : List Value) (hx : ((xs.drop off).take k1.length).length = k1.length) :
  (part t xs.toArray off).run P w = .ok (valOf P t ((xs.drop off).take k1.length)) w := by
 unfold fieldOk at hty
 cases htk : tyK P t with
 | none => rw [htk] at hty; cases hty
 | some nb =>
  obtain ⟨n, b⟩ := nb;rw [htk] at hty;simp only [Bool.and_eq_true, beq_iff_eq] at hty;obtain ⟨hn1, hb⟩ := hty;subst hn1;simp only [part, Sem.run_bind, run_isAgg htk, Result.andThen_ok]
  cases b with
  | true =>
   have hd : ∃ fs, P.underlying t = some (.struct fs) := by
    split at hb
    ·exact ⟨_, by assumption⟩
    ·cases hb
   obtain ⟨fs, hd⟩ := hd;simp only [valOf, hd];rw [if_pos trivial];simp only [Sem.run_bind, run_sizeOf htk, Result.andThen_ok]
   simp
  | false =>
   have hk1l : k1.length = 1 := by
    cases d with
    | zero => simp [flatK] at hk1
    | succ d =>
     simp only [flatK] at hk1
     split at hk1
     ·cases hk1; rfl
     ·cases hk1; rfl
     ·cases hk1; rfl
     ·rename_i hd; rw [hd] at hb; cases hb
     ·cases hk1
   have hv : valOf P t ((xs.drop off).take k1.length) = ((xs.drop off).take k1.length).headD undef := by
    unfold valOf
    split
    ·rename_i hd; rw [hd] at hb; cases hb
    ·rfl
   have hlt : off < xs.length := by
    have := hx;rw [List.length_take, List.length_drop, hk1l] at this
    omega
   rw [hv, hk1l, if_neg (by simp), List.drop_eq_getElem_cons hlt, List.take_succ_cons, List.headD_cons]
   have hg : xs.toArray[off]? = some xs[off] := by simp [hlt]
   rw [hg]
   rfl
theorem run_flatF {d : Nat} (hrec : FlatRun P d) : ∀ (fs : List Field) (p : Nat) (ks : List SK) (vs us : List Value) (D : Nat) (w : World), flatF P (flatK P d) p fs = some ks → d ≤ D → (vs.drop p).map kindV = ks.map some → (us.drop p).map kindV = ks.map some → vs.length = us.length →
  (Op.eqFields D vs.toArray us.toArray fs).run P w = .ok (eqL (vs.drop p) (us.drop p)) w
 | [], p, ks, vs, us, D, w, h, _, hv, hu, _ => by
  simp only [flatF, Option.some.injEq] at h;subst h
  have h1 : vs.drop p = [] := by
   have := congrArg List.length hv; simp at this; exact List.drop_eq_nil_of_le (by omega)
  have h2 : us.drop p = [] := by
   have := congrArg List.length hu; simp at this; exact List.drop_eq_nil_of_le (by omega)
  rw [h1, h2]
  simp [Op.eqFields, eqL]
 | f :: fs, p, ks, vs, us, D, w, h, hD, hv, hu, hlen => by
  unfold flatF at h
  by_cases hn : f.name = "_" ∨ f.offset ≠ p
  ·rw [if_pos hn] at h; cases h
  rw [if_neg hn] at h;simp only [not_or, Classical.not_not] at hn
  cases hk1 : flatK P d f.type with
  | none => rw [hk1] at h; cases h
  | some k1 =>
   rw [hk1] at h
   by_cases hty : fieldOk P f.type k1.length = true
   ·simp only [if_pos hty] at h
    cases hr : flatF P (flatK P d) (p + k1.length) fs with
    | none => rw [hr] at h; cases h
    | some k2 =>
     rw [hr] at h;simp only [Option.map_some, Option.some.injEq] at h;subst h;obtain ⟨v1, v2⟩ := kinds_split hv;obtain ⟨u1, u2⟩ := kinds_split hu
     have hl1 : ((vs.drop p).take k1.length).length = k1.length := by have := congrArg List.length v1; rw [List.length_map, List.length_map] at this; exact this
     have hl2 : ((us.drop p).take k1.length).length = k1.length := by have := congrArg List.length u1; rw [List.length_map, List.length_map] at this; exact this
     have hpv := run_part (off := f.offset) hk1 hty w vs (by rw [hn.2]; exact hl1);have hpu := run_part (off := f.offset) hk1 hty w us (by rw [hn.2]; exact hl2);rw [hn.2] at hpv hpu;rw [← hn.2] at hpv hpu;unfold Op.eqFields;rw [if_pos hn.1];simp only [Sem.run_bind, hpv, hpu, Result.andThen_ok];rw [hn.2, hrec f.type k1 _ _ D w hk1 hD v1 u1];simp only [Result.andThen_ok]
     have hsplit : eqL (vs.drop p) (us.drop p) = (eqL ((vs.drop p).take k1.length) ((us.drop p).take k1.length) && eqL (vs.drop (p + k1.length)) (us.drop (p + k1.length))) := by
      conv => lhs; rw [← List.take_append_drop k1.length (vs.drop p), ← List.take_append_drop k1.length (us.drop p)]
      rw [eqL_append (by rw [hl1, hl2]), List.drop_drop, List.drop_drop]
     rw [hsplit];have hrest := run_flatF hrec fs (p + k1.length) k2 vs us D w hr hD (by rw [← List.drop_drop]; exact v2) (by rw [← List.drop_drop]; exact u2) hlen
     cases he : eqL ((vs.drop p).take k1.length) ((us.drop p).take k1.length) with
     | false => simp
     | true => simpa using hrest
   ·simp only [if_neg hty] at h; cases h
theorem run_flat : ∀ (d : Nat), FlatRun P d
 | 0 => fun t ks vs us D w h _ _ _ => by simp [flatK] at h
 | d + 1 => fun t ks vs us D w h hD hv hu => by
  obtain ⟨D, rfl⟩ : ∃ D', D = D' + 1 := ⟨D - 1, by omega⟩;unfold flatK at h
  split at h
  ·rename_i k hk
   simp only [Option.some.injEq] at h; subst h;obtain ⟨v, rfl, hv1⟩ := kinds_one hv;obtain ⟨u, rfl, hu1⟩ := kinds_one hu;obtain ⟨a, rfl⟩ := kind_int hv1;obtain ⟨b, rfl⟩ := kind_int hu1;simp only [valOf, hk, List.headD_cons];rw [run_equalIn_int w D t _ _ a b hk];simp only [eqL, eqV, Bool.and_true]
   congr 1
   (try (rw [Bool.eq_iff_iff]; simp))
  ·rename_i hk
   simp only [Option.some.injEq] at h; subst h;obtain ⟨v, rfl, hv1⟩ := kinds_one hv;obtain ⟨u, rfl, hu1⟩ := kinds_one hu;obtain ⟨a, rfl⟩ := kind_str hv1;obtain ⟨b, rfl⟩ := kind_str hu1;simp only [valOf, hk, List.headD_cons];rw [run_equalIn_string w D t _ _ hk, toList_inj]
   simp [eqL, eqV]
  ·rename_i hk
   simp only [Option.some.injEq] at h; subst h;obtain ⟨v, rfl, hv1⟩ := kinds_one hv;obtain ⟨u, rfl, hu1⟩ := kinds_one hu;obtain ⟨a, rfl⟩ := kind_bool hv1;obtain ⟨b, rfl⟩ := kind_bool hu1;simp only [valOf, hk, List.headD_cons];rw [run_equalIn_bool' w D t _ _ hk];simp only [eqL, eqV, Bool.and_true]
   congr 1
  ·rename_i fs hk
   by_cases hst : P.stoodInHeld t = true
   ·rw [if_pos hst] at h; cases h
   ·rw [if_neg hst] at h
    have hst' : P.stoodInHeld t = false := by simpa using hst
    have hfs : P.fieldsOf t = fs := by simp [Program.fieldsOf, hk]
    simp only [valOf, hk];rw [run_equalIn_struct w D t _ _ (by rw [hfs]; exact hk) hst', hfs]
    have hl : vs.length = us.length := by
     have := congrArg List.length hv;have h2 := congrArg List.length hu
     simp at this h2; omega
    have := run_flatF (run_flat d) fs.toList 0 ks vs us D w h (by omega) (by simpa using hv) (by simpa using hu) hl
    simpa using this
  ·cases h
end
section
variable {E : Env} {w0 : World} {M0 : Nat → Prop} {Q : Exit → ASt → Prop} {s : ASt}
theorem aw_cut_g {γ : Type} {x y : Code} (S : γ → List (Nat × TV) × Mem) (P : γ → Prop) (h : AWp E w0 M0 x (athen (Goes S P s.n (fun _ => True)) Q) s) (k : ∀ g, P g → AWp E w0 M0 y Q (stt s.n (S g).1 (S g).2)) (hbw : ∀ g, bowIn E (S g).2 = true := by intro _; rfl) : AWp E w0 M0 (.seq x y) Q s := by
 refine aw_seq (h.mono fun e s' hq => ?_)
 cases e <;> try exact hq
 obtain ⟨h0, g, h1, h2, h3, h4, _⟩ := hq;refine aw_weak h1 h2 h3 ?_ (hbw _);rw [h0];exact k g h4
theorem condT {α : Type} {c : Bool} {a b r : α} (h : (bif c then a else b) = r) (h1 : c = true) : a = r := by rw [h1] at h; exact h
theorem condF {α : Type} {c : Bool} {a b r : α} (h : (bif c then a else b) = r) (h1 : c = false) : b = r := by rw [h1] at h; exact h
def bindO {α β : Type} (x : Option α) (k : α → Option β) : Option β := match x with | some a => k a | none => none
theorem bindO_inv {α β : Type} {x : Option α} {k : α → Option β} {r : β} (h : bindO x k = some r) : ∃ a, x = some a ∧ k a = some r := by
 cases x with
 | none => cases h
 | some a => exact ⟨a, rfl, h⟩
variable {o : Oper} {ev : Operand → TV} {mem : Mem}
theorem eff_lenM {α : Type} {t el : TypeId} {x : Operand} {k : Nat} {l : List α} {f : α → List G} (ho : o.op = .call ⟨.builtin .len, #[x], #[t]⟩)
  (ht : E.P.underlying t = some (.slice el)) (hx : ev x = .g (.sl k (l.map f))) (mem : Mem) : Eff E o mem ev (.g (.int (l.length : Int))) := by
 have := eff_len ho ht hx mem
 rwa [List.length_map] at this
theorem eff_lenO0 {t el : TypeId} {x : Operand} {id k hi : Nat} (ho : o.op = .call ⟨.builtin .len, #[x], #[t]⟩) (ht : E.P.underlying t = some (.slice el)) (hx : ev x = .osl id k 0 hi) (mem : Mem) : Eff E o mem ev (.g (.int (hi : Int))) := eff_lenO ho ht hx mem
theorem eff_nilL {z : Operand} (id : Nat) (e : TypeId) (k : Nat) (ho : o.op = .assign z) (hz : ev z = .g (.lit (.slice none 0 0))) (hf : lookO mem id = none) : EffW E o mem ev (.osl id k 0 0) ((id, .arr e k []) :: mem) none := by
 intro w0 M0 ρ w e' hm he;have h1 := he z (by rw [ho]; simp [Op.operands]);rw [hz] at h1;have h1' : e' z = .slice none 0 0 := h1;have hr := rho_none hm hf;obtain ⟨k1, k2⟩ := mrel_upd (id := id) (x := none) (blk' := .arr e k []) none hm ⟨rfl, rfl, rfl, Nat.le_refl _, fun _ _ _ => rfl⟩ (fun _ h => by cases h) (.inr ⟨rfl, .inl hr⟩) (fun _ b _ _ => noref_none b) (.inl rfl) (.inl ⟨rhoSet_same _ _ _, rfl⟩)
 have hrun : (execOp e' o).run E.P w = .ok (.value (.slice none 0 0)) w := by simp [execOp, ho, h1']
 rw [hrun];exact ⟨_, k1, k2, .inl ⟨rhoSet_same _ _ _, rfl, rfl, rfl⟩⟩
theorem eff_appL {α : Type} {f : α → List G} {out new : List α} {s x : Operand} {t e : TypeId} {k by_ id : Nat} (ho : o.op = .call ⟨.builtin .append, #[s, x], #[t, t]⟩) (ha : appK E.P t = some (e, k + 1, by_ + 1)) (hs : ev s = .osl id (k + 1) 0 out.length)
  (hx : lookO mem id = some (.arr e (k + 1) (out.map f))) (hsrc : SrcT E mem (k + 1) (new.map f) (ev x)) (hrefs : ∀ i blk, lookO mem i = some blk → i ≠ id → blk.noref (some id) = true) (hb : (out.length + new.length) * (by_ + 1) ≤ 140737488355328) (hbw : lookO E.bow id = none := by rfl) :
  EffW E o mem ev (.osl id (k + 1) 0 (out ++ new).length) ((id, .arr e (k + 1) ((out ++ new).map f)) :: mem) (some id) := by
 have := eff_appO ho ha hs hx (Nat.zero_le _) (by simp) hsrc hrefs (by simpa using hb) hbw
 simpa using this
theorem eff_ix {α : Type} {t el : TypeId} {x ix : Operand} {k : Nat} {b : Bool} {kk : IntKind} {n : Int} {l : List α} {f : α → List G} {a : α} (ho : o.op = .indexAddr t x ix) (ht : E.P.underlying t = some (.slice el)) (he : tyK E.P el = some (k + 1, b)) (hx : ev x = .g (.sl (k + 1) (l.map f)))
  (hi : ev ix = .g (.lit (.int kk n))) (h0 : 0 ≤ n) (ha : l[n.toNat]? = some a) (mem : Mem) : Eff E o mem ev (.g (.ref (f a))) :=
 eff_indexAddr ho ht he hx hi h0 (by rw [List.getElem?_map, ha]; rfl) mem
theorem run_slBound {P : Program} {k : IntKind} {n tp : Nat} {w : World} (hn : n ≤ tp) (code : BoundsCode) : (Instr.sliceBound (.int k (n : Int)) tp code).run P w = .ok n w := by
 have : (0 : Int) ≤ (n : Int) ∧ (n : Int) ≤ (tp : Int) := by omega
 simp [Instr.sliceBound, asIntOf, this]
def BndV (ev : Operand → TV) (x : Option Operand) (a d : Nat) : Prop := match x with
 | none => a = d
 | some y => ∃ kk, ev y = .g (.lit (.int kk (a : Int)))
theorem bnd_none {d : Nat} : BndV ev none d d := rfl
theorem bnd_some {y : Operand} {kk : IntKind} {n : Int} {d : Nat} (h : ev y = .g (.lit (.int kk n))) (h0 : 0 ≤ n) : BndV ev (some y) n.toNat d := ⟨kk, by rw [h, Int.toNat_of_nonneg h0]⟩
theorem run_slBounds {P : Program} {w : World} {e' : Operand → Value} {ρ : Rho} {M : Nat → Prop} {lo hi : Option Operand} {len cap a c : Nat} {isS : Bool} (hlo : BndV ev lo a 0) (hhi : BndV ev hi c len) (hac : a ≤ c) (hcl : c ≤ len) (hlc : len ≤ cap)
  (he : ∀ y, (lo = some y ∨ hi = some y) → TRel w M ρ (ev y) (e' y)) : (Instr.sliceBounds isS len cap (lo.map e') (hi.map e') none).run P w = .ok (a, c, cap) w := by
 have key : (∃ k, hi.map e' = some (.int k (c : Int))) ∨ (hi.map e' = none ∧ c = len) := by
  cases hi with
  | none => exact .inr ⟨rfl, hhi⟩
  | some y =>
   obtain ⟨kk, h⟩ := hhi;have := he y (.inr rfl);rw [h] at this;exact .inl ⟨kk, by rw [Option.map_some, show e' y = _ from this]⟩
 have key2 : (∃ k, lo.map e' = some (.int k (a : Int))) ∨ (lo.map e' = none ∧ a = 0) := by
  cases lo with
  | none => exact .inr ⟨rfl, hlo⟩
  | some y =>
   obtain ⟨kk, h⟩ := hlo;have := he y (.inl rfl);rw [h] at this;exact .inl ⟨kk, by rw [Option.map_some, show e' y = _ from this]⟩
 rcases key with ⟨k, h1⟩ | ⟨h1, rfl⟩ <;> rcases key2 with ⟨k2, h2⟩ | ⟨h2, rfl⟩ <;> rw [h1, h2] <;>
  simp [Instr.sliceBounds, run_slBound (P := P) (w := w) hac, run_slBound (P := P) (w := w) (show c ≤ cap by omega), run_slBound (P := P) (w := w) hlc]
theorem eff_slG {α : Type} {f : α → List G} {l : List α} {t el : TypeId} {x : Operand} {lo hi : Option Operand} {k a c : Nat} {b : Bool} (ho : o.op = .slice t x lo hi none) (ht : E.P.underlying t = some (.slice el)) (hk : tyK E.P el = some (k, b)) (hx : ev x = .g (.sl k (l.map f)))
  (hlo : BndV ev lo a 0) (hhi : BndV ev hi c l.length) (hac : a ≤ c) (hcl : c ≤ l.length) (mem : Mem) : Eff E o mem ev (.g (.sl k (((l.take c).drop a).map f))) :=
 eff_same (fun w M ρ e' he => by
  have h1 := he x (by rw [ho]; simp [Op.operands]);rw [hx] at h1;obtain ⟨ad, cap, h2, h3, h4, h5, h6⟩ := h1;rw [List.length_map] at h2 h3
  have hb := run_slBounds (P := E.P) (isS := true) (w := w) (e' := e') (ρ := ρ) (M := M) hlo hhi hac hcl h3 (fun y hy => he y (by
   rw [ho]
   rcases hy with rfl | rfl <;> simp [Op.operands]))
  refine ⟨.slice (if cap = a then ad else ad.map (·.add (a * k))) (c - a) (cap - a), ?_, (if cap = a then ad else ad.map (·.add (a * k))), cap - a, ?_, ?_, by omega, ?_, ?_⟩
  ·simp only [execOp, ho, h2, Instr.sliceAt, Instr.slice, Sem.run_bind, Sem.run_map, run_underlying ht, Result.andThen_ok, Option.map_none, hb, run_sizeOf hk, Sem.run_pure]
  ·rw [List.length_map, List.length_drop, List.length_take]; congr 1; omega
  ·rw [List.length_map, List.length_drop, List.length_take]; omega
  ·intro cc hc;obtain ⟨y, hy, rfl⟩ := List.mem_map.1 hc;exact h5 _ (List.mem_map.2 ⟨y, List.mem_of_mem_take (List.mem_of_mem_drop hy), rfl⟩)
  ·by_cases he0 : (((l.take c).drop a).map f).flatten = []
   ·refine .inl ⟨he0, ?_⟩
    by_cases hca : cap = a
    ·intro _; omega
    ·rw [if_neg hca];intro hn
     rcases h6 with ⟨_, h6⟩ | ⟨bb, oo, h6, _⟩
     ·cases ad with
      | none => have := h6 rfl; omega
      | some ad => simp at hn
     ·rw [h6] at hn; simp at hn
   ·rcases h6 with ⟨h6, _⟩ | ⟨bb, oo, h6, h7, h8⟩
    ·exfalso
     apply he0
     rw [List.map_drop, List.map_take, ← flatten_drop (k := k) a (fun cc hc => h5 cc (List.mem_of_mem_take hc)), ← flatten_take (k := k) c h5, h6]
     simp
    ·refine .inr ⟨bb, oo + a * k, ?_, h7, ?_⟩
     ·have : cap ≠ a := by
       intro e
       apply he0
       have : ((l.take c).drop a) = [] := List.drop_eq_nil_of_le (by rw [List.length_take]; omega);rw [this]; rfl
      rw [if_neg this, h6]; simp [Addr.add]
     ·rw [List.map_drop, List.map_take, ← flatten_drop (k := k) a (fun cc hc => h5 cc (List.mem_of_mem_take hc)), ← flatten_take (k := k) c h5]
      exact (h8.take (c * k)).drop (a * k)) mem
def FnIs (fv : G) (f : FuncId) (cap : List G) : Prop := ∀ w M v, fv.p w M v → (G.fn (.func f) [] cap).p w M v
theorem fnis_fn {f : FuncId} {cap : List G} : FnIs (.fn (.func f) [] cap) f cap := fun _ _ _ h => h
theorem fnis_lit {f : FuncId} : FnIs (.lit (.func (.func f) #[] #[])) f [] := fun _ _ _ h => ⟨[], [], h, trivial, trivial⟩
theorem eff_callf {x : Operand} {f : FuncId} {ops : Array Operand} {ts : Array TypeId} {fv : G} {cap args : List G} {r : G} (ho : o.op = .call ⟨.value x, ops, ts⟩)
  (hf : FnIs fv f cap) (hk : Known E.P f) (hev : ev x = .g fv) (hc : Con E f (args ++ cap) r) (ha : ops.toList.map ev = args.map TV.g) (mem : Mem) : Eff E o mem ev (.g r) := by
 intro w0 M0 ρ w e hm hx;obtain ⟨fn, k1, k2, k3⟩ := hk
 obtain ⟨fs, cs, hef, hfs, hcs⟩ : (G.fn (.func f) [] cap).p w (owned M0 ρ) (e x) := by
  have := hx x (by rw [ho]; simp [Op.operands, Call.operands]);rw [hev] at this;exact hf _ _ _ this
 obtain rfl : fs = [] := by cases fs with
  | nil => rfl
  | cons => exact hfs.elim
 have hv : FitsT w (owned M0 ρ) args (ops.toList.map e) := fits_of_ev (fun x hx' => hx x (by rw [ho]; simp [Op.operands, Call.operands]; exact .inr (by simpa using hx'))) ha
 have happ : ∀ {a b : List G} {va vb : List Value}, FitsT w (owned M0 ρ) a va → FitsT w (owned M0 ρ) b vb → FitsT w (owned M0 ρ) (a ++ b) (va ++ vb) := by
  intro a
  induction a with
  | nil => intro b va vb h1 h2; cases va with
   | nil => exact h2
   | cons => exact h1.elim
  | cons c a ih => intro b va vb h1 h2; cases va with
   | nil => exact h1.elim
   | cons v va => exact ⟨h1.1, ih h1.2 h2⟩
 refine upon_call hc hm (happ hv hcs) ?_
 simp [execOp, ho, resolve, hef, Deferred.ofValue, invoke, run_callFunc k1 k2 k3]
theorem drop_cons {α : Type} {l rest : List α} {k : Nat} (h : l.drop k = rest) (hk : ((k : Nat) : Int) < (l.length : Int)) : ∃ x rest', rest = x :: rest' ∧ l[k]? = some x ∧ l.drop (k + 1) = rest' := by
 have hk : k < l.length := by omega
 refine ⟨l[k], l.drop (k + 1), ?_, by simp, rfl⟩;rw [← h, List.drop_eq_getElem_cons hk]
theorem drop_nil {α : Type} {l rest : List α} {k : Nat} (h : l.drop k = rest) (hk : ¬ ((k : Nat) : Int) < (l.length : Int)) : rest = [] := by
 rw [← h]; exact List.drop_eq_nil_of_le (by omega)
abbrev cInt (n : Int) : List G := [G.int n]
abbrev cStr (s : ByteArray) : List G := [G.str s]
theorem len_sl {E : Env} {w0 : World} {M0 : Nat → Prop} {c : Code} {Q : Exit → ASt → Prop} {s : ASt} (t : Nat) {α : Type} {k : Nat} {l : List α} {f : α → List G} (h : s.get t = .g (.sl k (l.map f))) (hk : l.length ≤ 9223372036854775807 → AWp E w0 M0 c Q s) : AWp E w0 M0 c Q s :=
 aw_sl t h fun h' => hk (by rwa [List.length_map] at h')
theorem decT {p : Prop} [Decidable p] (h : decide p = true) : p := of_decide_eq_true h
theorem decF {p : Prop} [Decidable p] (h : decide p = false) : ¬ p := of_decide_eq_false h
end
section
variable {E : Env} {w0 : World} {M0 : Nat → Prop} {o : Oper} {ev : Operand → TV} {mem : Mem}
theorem eff_indexS {t : TypeId} {x ix : Operand} {s : ByteArray} {n : Int} {kk : IntKind} {b : UInt8} (ho : o.op = .index t x ix) (ht : E.P.underlying t = some .string) (hx : ev x = .g (.str s)) (hi : ev ix = .g (.lit (.int kk n))) (h0 : 0 ≤ n) (hb : s.data.toList[n.toNat]? = some b) (mem : Mem) :
  Eff E o mem ev (.g (.lit (.int .u8 (b.toNat : Int)))) :=
 eff_same (fun w M ρ e he => by
  have h1 := he x (by rw [ho]; simp [Op.operands]);have h2 := he ix (by rw [ho]; simp [Op.operands]);rw [hx] at h1; rw [hi] at h2;have h1 : e x = .string s := h1;have h2 : e ix = .int kk n := h2;have hlt : n.toNat < s.data.toList.length := (List.getElem?_eq_some_iff.1 hb).1
  have hlt' : n.toNat < s.size := by rw [Array.length_toList] at hlt; exact hlt
  have hget : s[n.toNat]? = some b := by
   rw [getElem?_pos s n.toNat hlt']
   congr 1
   have := (List.getElem?_eq_some_iff.1 hb).2;rw [← this]
   simp [ByteArray.getElem_eq_getElem_data]
  refine ⟨.int .u8 (b.toNat : Int), ?_, rfl⟩
  simp [execOp, ho, h1, h2, Instr.index, asIntOf, run_underlying ht, h0, hget]) mem
theorem upon_newO {ρ : Rho} {w : World} {id : Nat} {blk : Blk} {ob : Obj} (hm : MRel E w0 M0 ρ mem w) (hf : lookO mem id = none) (hb : BRel (w.alloc ob) (owned M0 (rhoSet ρ id (some ⟨w.heap.size, 0, 0⟩))) (rhoSet ρ id (some ⟨w.heap.size, 0, 0⟩)) id blk) :
  ∃ ρ', MRel E w0 M0 ρ' ((id, blk) :: mem) (w.alloc ob) ∧ Kept M0 none ρ w ρ' (w.alloc ob) ∧ ρ' id = some (some ⟨w.heap.size, 0, 0⟩) := by
 have hr := rho_none hm hf;obtain ⟨h1, h2⟩ := mrel_upd (id := id) (x := some ⟨w.heap.size, 0, 0⟩) (blk' := blk) none hm (diff_alloc ρ id w ob) (fun o ho => by cases ho; exact ⟨.inl (Nat.le_refl _), by simp⟩) (.inr ⟨rfl, .inl hr⟩) (fun _ b _ _ => noref_none b) (.inl rfl) hb;exact ⟨_, h1, h2, rhoSet_same _ _ _⟩
theorem upon_turn {ρ : Rho} {w : World} {id : Nat} {blk blk' : Blk} {ow : Own} {ob ob' : Obj} (hm : MRel E w0 M0 ρ mem w) (hl : lookO mem id = some blk) (hρ : ρ id = some (some ow)) (hg : w.heap[ow.b]? = some ob) (w' : World) (hw : w' = { w with heap := w.heap.setIfInBounds ow.b ob' })
  (hb : BRel w' (owned M0 (rhoSet ρ id (some ow))) (rhoSet ρ id (some ow)) id blk') : MRel E w0 M0 (rhoSet ρ id (some ow)) ((id, blk') :: mem) w' ∧ Kept M0 none ρ w (rhoSet ρ id (some ow)) w' := by
 subst hw
 have hd : Diff ρ id w { w with heap := w.heap.setIfInBounds ow.b ob' } := ⟨rfl, rfl, rfl, by simp, fun b _ hne => by
  have := hne ow hρ
  simp [Array.getElem?_setIfInBounds_ne (Ne.symm this)]⟩
 exact mrel_upd (id := id) (x := some ow) (blk' := blk') none hm hd (fun o ho => by cases ho; exact ⟨.inr ⟨ow, hρ, rfl⟩, by simpa using (hm.fresh id ow hρ).2⟩) (.inr ⟨rfl, .inr hρ⟩) (fun _ b _ _ => noref_none b) (.inl rfl) hb
theorem eff_rangeS {t : TypeId} {x : Operand} {s : ByteArray} (id : Nat) (ho : o.op = .range t x) (ht : E.P.underlying t = some .string) (hx : ev x = .g (.str s)) (hf : lookO mem id = none) : EffW E o mem ev (.ptr id 0) ((id, .it s 0) :: mem) none := by
 intro w0 M0 ρ w e hm he;have h1 := he x (by rw [ho]; simp [Op.operands]);rw [hx] at h1;have h1 : e x = .string s := h1
 have hrun : (execOp e o).run E.P w = .ok (.value (.pointer (some ⟨w.heap.size, 0, none⟩))) (w.alloc (.stringIter s 0)) := by simp [execOp, ho, h1, Instr.range, run_underlying ht]
 rw [hrun];obtain ⟨ρ', k1, k2, k3⟩ := upon_newO (ob := .stringIter s 0) (blk := .it s 0) hm hf ⟨_, rhoSet_same _ _ _, rfl, heap_alloc_new w _⟩;exact ⟨ρ', k1, k2, ⟨w.heap.size, 0, 0⟩, k3, rfl⟩
theorem iter_obj {ρ : Rho} {w : World} {id pos : Nat} {s : ByteArray} {v : Value} (hm : MRel E w0 M0 ρ mem w) (hb : lookO mem id = some (.it s pos)) (hv : TRel w (owned M0 ρ) ρ (.ptr id 0) v) : ∃ ow, ρ id = some (some ow) ∧ ow.o = 0 ∧ w.heap[ow.b]? = some (.stringIter s pos) ∧ v = .pointer (some ⟨ow.b, 0, none⟩) := by
 obtain ⟨ow, h1, h2⟩ := hv;obtain ⟨ow', g1, g2, g3⟩ := hm.blk id _ hb
 have : ow' = ow := by rw [h1] at g1; simpa using g1.symm
 subst this;exact ⟨ow', h1, g2, g3, by rw [h2, g2]⟩
theorem eff_nextE {i : Operand} {id pos : Nat} {s : ByteArray} (ho : o.op = .next i true) (hi : ev i = .ptr id 0) (hb : lookO mem id = some (.it s pos)) (hp : s.size ≤ pos) : Eff E o mem ev (.g (.tup [G.bool false])) := by
 intro w0 M0 ρ w e hm he;have h1 := he i (by rw [ho]; simp [Op.operands]);rw [hi] at h1;obtain ⟨ow, g1, g2, g3, g4⟩ := iter_obj hm hb h1
 have hn : ¬ pos < s.size := by omega
 have hrun : (execOp e o).run E.P w = .ok (.value (.tuple #[.bool false])) w := by
  simp [execOp, ho, g4, Instr.next, getObj, Sem.run, g3, hn]
 rw [hrun];exact ⟨Grow.refl w, [.bool false], rfl, rfl, trivial⟩
theorem eff_nextG {i : Operand} {id pos : Nat} {s : ByteArray} (ho : o.op = .next i true) (hi : ev i = .ptr id 0) (hb : lookO mem id = some (.it s pos)) (hp : pos < s.size) :
  EffW E o mem ev (.g (.tup [G.bool true, G.int (pos : Int), G.lit (.int .i32 ((Utf8.decode s pos).1 : Int))])) ((id, .it s (pos + (Utf8.decode s pos).2)) :: mem) none := by
 intro w0 M0 ρ w e hm he;have h1 := he i (by rw [ho]; simp [Op.operands]);rw [hi] at h1;obtain ⟨ow, g1, g2, g3, g4⟩ := iter_obj hm hb h1;have hlt := (Array.getElem?_eq_some_iff.1 g3).1
 have hrun : (execOp e o).run E.P w = .ok (.value (.tuple #[.bool true, .int .i64 (pos : Int), .int .i32 ((Utf8.decode s pos).1 : Int)])) { w with heap := w.heap.setIfInBounds ow.b (.stringIter s (pos + (Utf8.decode s pos).2)) } := by
  simp [execOp, ho, g4, Instr.next, getObj, setObj, Sem.run, g3, hp, goInt]
 rw [hrun];obtain ⟨k1, k2⟩ := upon_turn (ob' := .stringIter s (pos + (Utf8.decode s pos).2)) (blk' := .it s (pos + (Utf8.decode s pos).2)) hm hb g1 g3 _ rfl ⟨ow, rhoSet_same _ _ _, g2, by simp [hlt]⟩;exact ⟨_, k1, k2, _, rfl, rfl, rfl, rfl, trivial⟩
def runesF (s : ByteArray) : Nat → Nat → List (Int × Int)
 | 0, _ => []
 | n + 1, pos => if pos < s.size then ((pos : Int), ((Utf8.decode s pos).1 : Int)) :: runesF s n (pos + (Utf8.decode s pos).2) else []
def runes (s : ByteArray) : List (Int × Int) := runesF s s.size 0
def RunesAt (s : ByteArray) (pos : Nat) (l : List (Int × Int)) : Prop := ∃ n, s.size ≤ pos + n ∧ runesF s n pos = l
theorem decode_width (s : ByteArray) (i : Nat) : 1 ≤ (Utf8.decode s i).2 := by
 unfold Utf8.decode;dsimp only
 repeat' split
 all_goals simp
theorem runesAt_start (s : ByteArray) : RunesAt s 0 (runes s) := ⟨s.size, by omega, rfl⟩
theorem runesAt_nil {s : ByteArray} {pos : Nat} (h : RunesAt s pos []) : s.size ≤ pos := by
 obtain ⟨n, h1, h2⟩ := h
 cases n with
 | zero => exact h1
 | succ n =>
  unfold runesF at h2
  split at h2
  ·cases h2
  ·omega
theorem runesAt_cons {s : ByteArray} {pos : Nat} {y : Int × Int} {t : List (Int × Int)} (h : RunesAt s pos (y :: t)) : pos < s.size ∧ y = ((pos : Int), ((Utf8.decode s pos).1 : Int)) ∧ RunesAt s (pos + (Utf8.decode s pos).2) t := by
 obtain ⟨n, h1, h2⟩ := h
 cases n with
 | zero => cases h2
 | succ n =>
  unfold runesF at h2
  split at h2
  ·rename_i hp
   simp only [List.cons.injEq] at h2;have := decode_width s pos;exact ⟨hp, h2.1.symm, n, by omega, h2.2⟩
  ·cases h2
end
section
variable {E : Env} {w0 : World} {M0 : Nat → Prop} {o : Oper} {ev : Operand → TV} {mem : Mem}
theorem st_gr {ops : Array Oper} {os : List Oper} {cs : List Cls} {s : ASt} {K : ASt → Prop} {r : TV} {d j e : Nat} {want gb : Bool} (hd : o.dst = some d) (hg : o.guard = some (j, want)) (hj : (ops[j]?).bind (·.dst) = some e) (hb : GB (s.get e) want gb) (he : gb = true → Eff E o s.mem (s.eval E) r)
  (hn : Nat.blt d s.n = true) (hk : AOps E ops os cs (s.put (some d) (bif gb then r else undefT)) K) : AOps E ops (o :: os) (.r :: cs) s K :=
 ⟨s.put (some d) (bif gb then r else undefT), ⟨fun d' h => by rw [hd] at h; cases h; exact Nat.le_of_ble_eq_true hn, gb, bif gb then r else undefT, s.mem, none, by unfold Wanted; rw [hg]; exact ⟨e, hj, hb⟩,
  fun h => ⟨rfl, rfl, by rw [h]; exact he h⟩, fun h => ⟨rfl, rfl, by rw [h]; rfl⟩, by rw [hd]; rfl⟩, hk⟩
def structB (P : Program) (t : TypeId) : Bool := match P.underlying t with | some (.struct _) => true | _ => false
theorem fits_lits_eq {w : World} {M : Nat → Prop} : ∀ {vs us : List Value}, Fits w M (vs.map G.lit) us → us = vs
 | [], [], _ => rfl
 | v :: vs, u :: us, h => by rw [show u = v from h.1.1, fits_lits_eq h.2]
 | [], _ :: _, h => h.elim
 | _ :: _, [], h => h.elim
theorem aeq_run {P : Program} {t : TypeId} {ks : List SK} {vs us : List Value} (hf : flatK P 60 t = some ks) (hs : structB P t = true) (hv : vs.map kindV = ks.map some) (hu : us.map kindV = ks.map some) (w : World) :
  (Op.equal t (.agg vs.toArray) (.agg us.toArray)).run P w = .ok (eqL vs us) w := by
 have := run_flat (P := P) 60 t ks vs us Op.maxDepth w hf (by decide) hv hu;unfold structB at hs
 split at hs
 ·rename_i fs hfs
  simp only [valOf, hfs] at this;exact this
 ·cases hs
theorem eff_aeq {op : BinOp} {t : TypeId} {x y : Operand} {t' : TypeId} {ks : List SK} (vs us : List Value) {b r : Bool} (ho : o.op = .binOp op t x y t') (hop : op = .eql ∧ r = b ∨ op = .neq ∧ r = !b) (hf : flatK E.P 60 t = some ks ∧ structB E.P t = true ∧ E.P.eqGuardType E.P.depth t = false) (hx : ev x = .g (.agg (vs.map G.lit))) (hy : ev y = .g (.agg (us.map G.lit)))
  (hv : vs.map kindV = ks.map some) (hu : us.map kindV = ks.map some) (hb : eqL vs us = b) (mem : Mem) : Eff E o mem ev (.g (.bool r)) :=
 eff_same (fun w M ρ e he => by
  obtain ⟨a1, a2, a3⟩ := hf;have h1 := he x (by rw [ho]; simp [Op.operands]);rw [hx] at h1;obtain ⟨vs', h1, h1'⟩ := h1;have := fits_lits_eq h1'; subst this;have h2 := he y (by rw [ho]; simp [Op.operands]);rw [hy] at h2;obtain ⟨us', h2, h2'⟩ := h2;have := fits_lits_eq h2'; subst this;have hr := aeq_run (P := E.P) a1 a2 hv hu w;rw [hb] at hr;refine ⟨.bool r, ?_, rfl⟩
  rcases hop with ⟨rfl, rfl⟩ | ⟨rfl, rfl⟩ <;>
   simp [execOp, ho, h1, h2, eqGuard, a3, binOp, hr]) mem
theorem eff_aneq {t : TypeId} {x y : Operand} {t' : TypeId} {ks : List SK} (vs us : List Value) {b : Bool} (ho : o.op = .binOp .neq t x y t') (hf : flatK E.P 60 t = some ks ∧ structB E.P t = true ∧ E.P.eqGuardType E.P.depth t = false) (hx : ev x = .g (.agg (vs.map G.lit))) (hy : ev y = .g (.agg (us.map G.lit)))
  (hv : vs.map kindV = ks.map some) (hu : us.map kindV = ks.map some) (hb : eqL vs us = b) (mem : Mem) : Eff E o mem ev (.g (.bool !b)) := eff_aeq vs us ho (.inr ⟨rfl, rfl⟩) hf hx hy hv hu hb mem
theorem drop_consB {s : ByteArray} {rest : List UInt8} {k : Nat} (h : s.data.toList.drop k = rest) (hk : ((k : Nat) : Int) < (ByteArray.size s : Int)) : ∃ x rest', rest = x :: rest' ∧ s.data.toList[k]? = some x ∧ s.data.toList.drop (k + 1) = rest' :=
 drop_cons h (by rw [Array.length_toList]; exact hk)
theorem drop_nilB {s : ByteArray} {rest : List UInt8} {k : Nat} (h : s.data.toList.drop k = rest) (hk : ¬ ((k : Nat) : Int) < (ByteArray.size s : Int)) : rest = [] :=
 drop_nil h (by rw [Array.length_toList]; exact hk)
end
theorem eff_nextY {E : Env} {o : Oper} {ev : Operand → TV} {mem : Mem} {i : Operand} {id pos : Nat} {s : ByteArray} {y : Int × Int} (ho : o.op = .next i true) (hi : ev i = .ptr id 0) (hb : lookO mem id = some (.it s pos)) (hp : pos < s.size) (hy : y = ((pos : Int), ((Utf8.decode s pos).1 : Int))) :
  EffW E o mem ev (.g (.tup [G.bool true, G.int y.1, G.lit (.int .i32 y.2)])) ((id, .it s (pos + (Utf8.decode s pos).2)) :: mem) none := by
 subst hy; exact eff_nextG ho hi hb hp
open Go.Lib
def numF : Nat → List UInt8 → Nat
 | x, [] => x
 | x, c :: l => numF (10 * x + (c.toNat - 48)) l
theorem numF_app : ∀ (a b : List UInt8) (x : Nat), numF x (a ++ b) = numF (numF x a) b
 | [], b, x => rfl
 | c :: a, b, x => numF_app a b _
theorem ofNat_toNat {n : Nat} (h : n < 256) : (UInt8.ofNat n).toNat = n := by
 rw [UInt8.toNat_ofNat']; exact Nat.mod_eq_of_lt h
theorem num_dec (u : Nat) : numF 0 (decDigits u) = u := by
 induction u using Nat.strongRecOn with
 | _ u ih =>
  by_cases h : u < 10
  ·rw [decDigits, dif_pos h];show 10 * 0 + ((UInt8.ofNat (48 + u)).toNat - 48) = u;rw [ofNat_toNat (by omega)]; omega
  ·rw [decDigits, dif_neg h, numF_app, ih (u / 10) (by omega)];show 10 * (u / 10) + ((UInt8.ofNat (48 + u % 10)).toNat - 48) = u;rw [ofNat_toNat (by omega)]; omega
theorem num_zero : ∀ k : Nat, numF 0 (List.replicate k 48) = 0
 | 0 => rfl
 | k + 1 => by
  rw [List.replicate_succ];show numF (10 * 0 + ((48 : UInt8).toNat - 48)) (List.replicate k 48) = 0;exact num_zero k
def isDig (c : UInt8) : Prop := 48 ≤ c.toNat ∧ c.toNat ≤ 57
theorem dec_dig (u : Nat) : ∀ c ∈ decDigits u, isDig c := by
 induction u using Nat.strongRecOn with
 | _ u ih =>
  intro c hc
  by_cases h : u < 10
  ·rw [decDigits, dif_pos h, List.mem_singleton] at hc;subst hc;unfold isDig;rw [ofNat_toNat (by omega)]; omega
  ·rw [decDigits, dif_neg h] at hc
   rcases List.mem_append.1 hc with hc | hc
   ·exact ih (u / 10) (by omega) c hc
   ·rw [List.mem_singleton] at hc;subst hc;unfold isDig;rw [ofNat_toNat (by omega)]; omega
theorem dec_len {w u : Nat} (h : u < 10 ^ w) (hw : 1 ≤ w) : (decDigits u).length ≤ w := by
 rw [decDigits_length]
 rcases Nat.lt_or_ge w (nDigits u) with h1 | h1
 ·exfalso
  obtain ⟨k, hk⟩ : ∃ k, nDigits u = k + 1 := ⟨nDigits u - 1, by have := nDigits_pos u; omega⟩
  have hlow : ∀ v : Nat, ∀ k, nDigits v = k + 1 → 1 ≤ k → 10 ^ k ≤ v := by
   intro v
   induction v using Nat.strongRecOn with
   | _ v ih =>
    intro k hk hk1
    by_cases hv : v < 10
    ·rw [nDigits_small hv] at hk; omega
    ·rw [nDigits_big hv] at hk;obtain ⟨j, rfl⟩ : ∃ j, k = j + 1 := ⟨k - 1, by omega⟩
     by_cases hj : j = 0
     ·subst hj; omega
     ·have := ih (v / 10) (by omega) j (by omega) (by omega);rw [Nat.pow_succ]; omega
  have h2 := hlow u k hk (by omega);have h3 : 10 ^ w ≤ 10 ^ k := Nat.pow_le_pow_right (by decide) (by omega)
  omega
 ·exact h1
def wideL (u w : Nat) : List UInt8 := List.replicate (w - (decDigits u).length) 48 ++ decDigits u
theorem wide_len {w u : Nat} (h : u < 10 ^ w) (hw : 1 ≤ w) : (wideL u w).length = w := by
 have := dec_len h hw;unfold wideL;rw [List.length_append, List.length_replicate]; omega
theorem wide_num (u w : Nat) : numF 0 (wideL u w) = u := by
 unfold wideL;rw [numF_app, num_zero, num_dec]
theorem wide_dig (u w : Nat) : ∀ c ∈ wideL u w, isDig c := by
 intro c hc;unfold wideL at hc
 rcases List.mem_append.1 hc with hc | hc
 ·rw [(List.mem_replicate.1 hc).2]; exact ⟨by decide, by decide⟩
 ·exact dec_dig u c hc
theorem index_none {c : UInt8} : ∀ {x : List UInt8}, c ∉ x → index x [c] = -1
 | [], _ => rfl
 | b :: x, h => by
  have h1 : ¬ c = b := fun e => h (e ▸ List.mem_cons_self);have h2 := index_none (c := c) (x := x) fun e => h (List.mem_cons_of_mem _ e);unfold index;rw [h2]
  simp [List.isPrefixOf, h1]
theorem index_at {c : UInt8} : ∀ {x : List UInt8} (r : List UInt8), c ∉ x → index (x ++ c :: r) [c] = (x.length : Int)
 | [], r, _ => by simp [index, List.isPrefixOf]
 | b :: x, r, h => by
  have h1 : ¬ c = b := fun e => h (e ▸ List.mem_cons_self);have h2 := index_at (c := c) (x := x) r fun e => h (List.mem_cons_of_mem _ e);show index (b :: (x ++ c :: r)) [c] = _;unfold index;rw [h2]
  have h3 : ((x.length : Int) == -1) = false := by simp
  simp [List.isPrefixOf, h1, h3]
abbrev sepB : ByteArray := ⟨#[32]⟩
def wB (l : List UInt8) : ByteArray := ⟨l.toArray⟩
theorem join_cons2 (w v : List UInt8) (r : List (List UInt8)) : join (w :: v :: r) [32] = w ++ 32 :: join (v :: r) [32] := by
 unfold join
 simp [List.intercalate]
theorem count_join : ∀ (ws : List (List UInt8)), ws ≠ [] → (∀ w ∈ ws, (32 : UInt8) ∉ w) → count (join ws [32]) [32] + 1 = ws.length
 | [], h, _ => absurd rfl h
 | [w], _, h => by
  rw [join_one, count_one, List.count_eq_zero.2 (h w List.mem_cons_self)]; rfl
 | w :: v :: r, _, h => by
  have ih := count_join (v :: r) (by simp) fun x hx => h x (List.mem_cons_of_mem _ hx);rw [count_one] at ih;rw [join_cons2, count_one, List.count_append, List.count_cons_self, List.count_eq_zero.2 (h w List.mem_cons_self)];rw [List.length_cons, ← ih]
  omega
theorem split_join : ∀ (ws : List (List UInt8)), ws ≠ [] → (∀ w ∈ ws, (32 : UInt8) ∉ w) → ∀ k, ws.length ≤ k + 1 → splitB sepB 0 k (wB (join ws [32])) = ws.map wB
 | [], h, _, _, _ => absurd rfl h
 | [w], _, h, k, _ => by
  rw [join_one];exact splitB_miss _ _ _ _ (index_none (h w List.mem_cons_self))
 | w :: v :: r, _, h, 0, hk => by simp at hk
 | w :: v :: r, _, h, k + 1, hk => by
  have hi : indexB (wB (join (w :: v :: r) [32])) sepB = (w.length : Int) := by
   rw [join_cons2];exact index_at _ (h w List.mem_cons_self)
  have ih := split_join (v :: r) (by simp) (fun x hx => h x (List.mem_cons_of_mem _ hx)) k (by simp at hk ⊢; omega);rw [splitB, hi]
  have h3 : ((w.length : Int) == -1) = false := by simp
  rw [h3];simp only [Bool.false_eq_true, if_false, Int.toNat_natCast, Nat.add_zero];rw [List.map_cons, ← ih]
  have e1 : (wB (join (w :: v :: r) [32])).extract 0 w.length = wB w := by
   rw [join_cons2]
   apply ByteArray.ext
   rw [ByteArray.data_extract];show (w ++ 32 :: join (v :: r) [32]).toArray.extract 0 w.length = w.toArray
   simp
  have e2 : (wB (join (w :: v :: r) [32])).extract (w.length + sepB.size) (wB (join (w :: v :: r) [32])).size = wB (join (v :: r) [32]) := by
   rw [join_cons2]
   apply ByteArray.ext
   rw [ByteArray.data_extract];show (w ++ 32 :: join (v :: r) [32]).toArray.extract (w.length + 1) (w ++ 32 :: join (v :: r) [32]).toArray.size = (join (v :: r) [32]).toArray
   simp
   rw [show w.length + ((join (v :: r) [32]).length + 1) - (w.length + 1) = (join (v :: r) [32]).length by omega, List.take_length]
  rw [e1, e2]
end Go.Sim
