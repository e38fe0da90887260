/-
  What is proved: lemmas and contracts of functions on the way to the law topChockQueue (part 11).
-/
import Derived.Test.YtfmnmoiaemejjaaGreatVrA3
import Derived.Test.YtfmnmoiaemejjaaGreatVrA4
import Derived.Test.YtfmnmoiaemejjaaGreatVrA6
import Derived.Test.YtfmnmoiaemejjaaGreatVrA9
import Derived.Test.YtfmnmoiaemejjaaGreatVrA8
import Derived.Test.YtfmnmoiaemejjaaGreatVrB1
set_option linter.unusedSectionVars false
set_option linter.unusedSimpArgs false
set_option linter.unusedVariables false
set_option linter.unnecessarySimpa false
set_option linter.deprecated false
namespace Go.Sim
section
variable {E : Env} {w0 : World} {M0 : Nat → Prop}
theorem qno {P : Program} {w : World} {k1 k2 k3 : IntKind} {a c m len cap : Nat} (h1 : a ≤ c) (h2 : c ≤ m) (h3 : m ≤ cap) :
  (Instr.sliceBounds true len cap (some (.int k1 (a : Int))) (some (.int k2 (c : Int))) (some (.int k3 (m : Int)))).run P w = .ok (a, c, m) w := by
 simp [Instr.sliceBounds, xu (P := P) (w := w) h1, xu (P := P) (w := w) h2, xu (P := P) (w := w) h3]
theorem qnp {P : Program} {w : World} {k1 k2 : IntKind} {a c len cap : Nat} (h1 : a ≤ c) (h2 : c ≤ cap) :
  (Instr.sliceBounds true len cap (some (.int k1 (a : Int))) (some (.int k2 (c : Int))) none).run P w = .ok (a, c, cap) w := by
 simp [Instr.sliceBounds, xu (P := P) (w := w) h1, xu (P := P) (w := w) h2]
theorem q26 {cur : List Value} {o n a : Nat} {news : List Value} (h1 : a + news.length ≤ n) (h2 : o + n ≤ cur.length) :
  ((setAt cur (o + a) news).drop o).take n = ((cur.drop o).take n).take a ++ news ++ ((cur.drop o).take n).drop (a + news.length) := by
 simp only [setAt];rw [List.append_assoc, List.drop_append_of_le_length (by rw [List.length_take]; omega), List.drop_take, show o + a - o = a by omega]
 have hl1 : ((cur.drop o).take a).length = a := by rw [List.length_take, List.length_drop]; omega
 rw [List.take_append, hl1, List.take_of_length_le (l := (cur.drop o).take a) (by omega)];rw [List.take_append, List.take_of_length_le (l := news) (by omega)];rw [List.take_take, Nat.min_eq_left (show a ≤ n by omega), List.append_assoc]
 congr 2
 rw [List.drop_take, List.drop_drop]
 congr 1
 ·omega
 ·congr 1; omega
theorem q27 {o : Oper} {ev : Operand → TV} {t el : TypeId} {x lo hi mx : Operand} {id k N : Nat} {a c m : Int} {b : Bool} {ka kc km : IntKind} (ho : o.op = .slice t x (some lo) (some hi) (some mx)) (ht : E.P.underlying t = some (.slice el)) (hk : tyK E.P el = some (k, b)) (hx : ev x = .osl id k 0 N)
  (hlo : ev lo = .g (.lit (.int ka a))) (hhi : ev hi = .g (.lit (.int kc c))) (hmx : ev mx = .g (.lit (.int km m))) (h0 : 0 ≤ a) (h1 : a ≤ c) (h2 : c ≤ m) (h3 : m ≤ (N : Int)) (mem : Mem) : Eff E o mem ev .any :=
 jh (fun w M ρ e' he => by
  have g1 := he x (by rw [ho]; simp [Op.operands]);have g2 := he lo (by rw [ho]; simp [Op.operands]);have g3 := he hi (by rw [ho]; simp [Op.operands]);have g4 := he mx (by rw [ho]; simp [Op.operands]);rw [hx] at g1; rw [hlo] at g2; rw [hhi] at g3; rw [hmx] at g4
  have g2 : e' lo = .int ka ((a.toNat : Nat) : Int) := by rw [Int.toNat_of_nonneg h0]; exact g2
  have g3 : e' hi = .int kc ((c.toNat : Nat) : Int) := by rw [Int.toNat_of_nonneg (by omega)]; exact g3
  have g4 : e' mx = .int km ((m.toNat : Nat) : Int) := by rw [Int.toNat_of_nonneg (by omega)]; exact g4
  obtain ⟨ad, ln, cp, hs, hN⟩ : ∃ ad ln cp, e' x = .slice ad ln cp ∧ N ≤ cp := by
   rcases g1 with ⟨_, _, q, h⟩ | ⟨ow, _, _, q, p, h, _⟩
   ·exact ⟨_, _, _, h, by omega⟩
   ·exact ⟨_, _, _, h, by omega⟩
  have hb := qno (P := E.P) (w := w) (k1 := ka) (k2 := kc) (k3 := km) (len := ln) (show a.toNat ≤ c.toNat by omega) (show c.toNat ≤ m.toNat by omega) (show m.toNat ≤ cp by omega);refine ⟨.slice (if m.toNat = a.toNat then ad else ad.map (·.add (a.toNat * k))) (c.toNat - a.toNat) (m.toNat - a.toNat), ?_, trivial⟩
  ·simp only [execOp, ho, hs, g2, g3, g4, Instr.sliceAt, Instr.slice, Sem.run_bind, Sem.run_map, run_underlying ht, Result.andThen_ok, Option.map_some, hb, jv hk, Sem.run_pure]) mem
theorem q28 {o : Oper} {mem : Mem} {ev : Operand → TV} {t el e : TypeId} {x lo hi : Operand} {id k M : Nat} {a c : Int} {b : Bool} {ka kc : IntKind} {xs : List (List G)} (ho : o.op = .slice t x (some lo) (some hi) none) (ht : E.P.underlying t = some (.slice el)) (hk : tyK E.P el = some (k, b)) (hx : ev x = .osl id k 0 M)
  (hlo : ev lo = .g (.lit (.int ka a))) (hhi : ev hi = .g (.lit (.int kc c))) (h0 : 0 ≤ a) (h1 : a ≤ c) (h2 : c ≤ (xs.length : Int)) (hl : qr mem id = some (.arr e k xs)) (hM : 0 < xs.length) : Eff E o mem ev (.osl id k a.toNat c.toNat) := by
 intro w0 M0 ρ w e' hm he;have g1 := he x (by rw [ho]; simp [Op.operands]);have g2 := he lo (by rw [ho]; simp [Op.operands]);have g3 := he hi (by rw [ho]; simp [Op.operands]);rw [hx] at g1; rw [hlo] at g2; rw [hhi] at g3
 have g2 : e' lo = .int ka ((a.toNat : Nat) : Int) := by rw [Int.toNat_of_nonneg h0]; exact g2
 have g3 : e' hi = .int kc ((c.toNat : Nat) : Int) := by rw [Int.toNat_of_nonneg (by omega)]; exact g3
 rcases g1 with ⟨q0, _, q, _⟩ | ⟨ow, q1, _, q2, p, q3, q4⟩
 ·rcases hm.blk id _ hl with ⟨_, k2⟩ | ⟨ow', cur, k1, _⟩
  ·rw [k2] at hM; simp at hM
  ·rw [q0] at k1; cases k1
 ·rcases hm.blk id _ hl with ⟨k1, _⟩ | ⟨ow', cur, k1, k2, k3, k4, k5, k6, k7⟩
  ·rw [q1] at k1; cases k1
  have : ow' = ow := by rw [q1] at k1; simpa using k1.symm
  subst this;rw [Nat.sub_zero] at q3;have hp := q4 (by omega);have hb := qnp (P := E.P) (w := w) (k1 := ka) (k2 := kc) (len := M) (show a.toNat ≤ c.toNat by omega) (show c.toNat ≤ ow'.cap by omega)
  have hrun : (execOp e' o).run E.P w = .ok (.value (.slice (if ow'.cap = a.toNat then some ⟨ow'.b, p, none⟩ else some ⟨ow'.b, p + a.toNat * k, none⟩) (c.toNat - a.toNat) (ow'.cap - a.toNat))) w := by
   simp only [execOp, ho, q3, g2, g3, Nat.sub_zero, Instr.sliceAt, Instr.slice, Sem.run_bind, Sem.run_map, run_underlying ht, Result.andThen_ok, Option.map_none, Option.map_some, hb, jv hk, Sem.run_pure, Addr.add_lit]
  rw [hrun];refine ⟨Grow.refl w, .inr ⟨ow', q1, by omega, by omega, if ow'.cap = a.toNat then p else p + a.toNat * k, ?_, fun h => ?_⟩⟩
  ·by_cases hca : ow'.cap = a.toNat <;> simp [hca]
  ·rw [if_neg (by omega), hp, Nat.zero_mul, Nat.add_zero]
theorem qzh {o : Oper} {mem : Mem} {ev : Operand → TV} {s x : Operand} {t e : TypeId} {k by_ id a b N : Nat} {xs : List (List G)} (ho : o.op = .call ⟨.builtin .append, #[s, x], #[t, t]⟩) (ha : appK E.P t = some (e, k + 1, by_ + 1)) (hs : ev s = .osl id (k + 1) 0 a) (hx : ev x = .osl id (k + 1) b N)
  (hl : qr mem id = some (.arr e (k + 1) xs)) (hN : xs.length = N) (hab : a ≤ b) (hbN : b ≤ N) (h0 : 0 < N) :
  EffW E o mem ev (.osl id (k + 1) 0 (a + (N - b))) ((id, .arr e (k + 1) (xs.take a ++ xs.drop b ++ xs.drop (a + (N - b)))) :: mem) none := by
 intro w0 M0 ρ w e' hm he;have v1 := he s (by rw [ho]; simp [Op.operands, Call.operands]);have v2 := he x (by rw [ho]; simp [Op.operands, Call.operands]);rw [hs] at v1; rw [hx] at v2;obtain ⟨i, z, t1, t2, t3, t4, t5, t6⟩ := qd8 ha
 rcases hm.blk id _ hl with ⟨g1, g2⟩ | ⟨ow, cur, g1, g2, g3, g4, g5, g6, g7⟩
 ·rw [g2] at hN; simp at hN; omega
 have hcv : ∃ p, e' s = .slice (some ⟨ow.b, p, none⟩) a ow.cap ∧ (0 < ow.cap → p = ow.o) := by
  rcases v1 with ⟨h, _⟩ | ⟨ow', h, _, _, p, h4, h5⟩
  ·rw [g1] at h; cases h
  ·have : ow' = ow := by rw [g1] at h; simpa using h.symm
   subst this;exact ⟨p, by simpa using h4, by simpa using h5⟩
 have hcx : ∃ p, e' x = .slice (some ⟨ow.b, p, none⟩) (N - b) (ow.cap - b) ∧ (b < ow.cap → p = ow.o + b * (k + 1)) := by
  rcases v2 with ⟨h, _⟩ | ⟨ow', h, _, _, p, h4, h5⟩
  ·rw [g1] at h; cases h
  ·have : ow' = ow := by rw [g1] at h; simpa using h.symm
   subst this;exact ⟨p, h4, h5⟩
 obtain ⟨p, es, hp⟩ := hcv;obtain ⟨p', ex, hp'⟩ := hcx;subst hN;have hcap : ow.o + ow.cap * (k + 1) ≤ cur.size := g5.resolve_left (by omega);have hp := hp (by omega);subst hp;have hNk : xs.length * (k + 1) ≤ ow.cap * (k + 1) := Nat.mul_le_mul_right _ g3
 -- what is moved
 let news := ((cur.toList.drop ow.o).take (xs.length * (k + 1))).drop (b * (k + 1))
 have hcl : cur.toList.length = cur.size := Array.length_toList
 have hlenall : ((cur.toList.drop ow.o).take (xs.length * (k + 1))).length = xs.length * (k + 1) := by rw [List.length_take, List.length_drop, hcl]; omega
 have hbk : b * (k + 1) ≤ xs.length * (k + 1) := Nat.mul_le_mul_right _ hbN;have hak : a * (k + 1) ≤ b * (k + 1) := Nat.mul_le_mul_right _ hab;have hsub : (xs.length - b) * (k + 1) = xs.length * (k + 1) - b * (k + 1) := Nat.sub_mul _ _ _
 have hnl : news.length = (xs.length - b) * (k + 1) := by show (List.drop _ _).length = _; rw [List.length_drop, hlenall, hsub]
 have hfnew : Fits w (qz M0 ρ) (xs.drop b).flatten news := by
  have := g7.drop (b * (k + 1))
  rwa [vm b g6] at this
 have hmul : (a + (xs.length - b)) * (k + 1) = a * (k + 1) + (xs.length - b) * (k + 1) := Nat.add_mul _ _ _
 have hstore : ∃ w' cur', (execOp e' o).run E.P w = .ok (.value (.slice (some ⟨ow.b, ow.o, none⟩) (a + (xs.length - b)) ow.cap)) w' ∧ w'.heap[ow.b]? = some (.cells cur' e (0, 0)) ∧ cur'.toList = setAt cur.toList (ow.o + a * (k + 1)) news ∧ (∀ q, q ≠ ow.b → w'.heap[q]? = w.heap[q]?) ∧ w'.heap.size = w.heap.size ∧ w'.os = w.os ∧ w'.tape = w.tape ∧ w'.output = w.output := by
  have hrd : ∀ j u, news[j]? = some u → w.cell? (Addr.add ⟨ow.b, p', none⟩ j) = some u := by
   intro j u hj;have hj' := hj;have hjl : j < news.length := (List.getElem?_eq_some_iff.1 hj).1
   have hbc : b < ow.cap := by
    rcases Nat.lt_or_ge b ow.cap with h | h
    ·exact h
    ·have : xs.length - b = 0 := by omega
     rw [this] at hnl; omega
   rw [hp' hbc, Addr.add_lit, cell_of_row w _ _ _ _ _ g2];have : news[j]? = ((cur.toList.drop ow.o).take (xs.length * (k + 1)))[b * (k + 1) + j]? := List.getElem?_drop;rw [this, List.getElem?_take] at hj
   split at hj
   ·rw [List.getElem?_drop] at hj;rw [show ow.o + b * (k + 1) + j = ow.o + (b * (k + 1) + j) by omega]
    simpa using hj
   ·cases hj
  obtain ⟨w', cur', r1, r2, r3, r4, r5, r6, r7, r8⟩ := xn (P := E.P) ow.b (ow.o + a * (k + 1)) e news 0 cur w g2 (by omega) (fun u hu => hfnew.one u hu);have hf := run_firstCells_some (P := E.P) w (k + 1) (xs.length - b) ⟨ow.b, p', none⟩ (xs.length - b) (ow.cap - b) news hnl hrd;refine ⟨w', cur', ?_, r2, by rw [r3, Nat.add_zero], r4, r5, r6, r7, r8⟩
  have hroom : a + (xs.length - b) ≤ ow.cap := by omega
  have hrun : (execOp e' o) = (do pure (.value (← Builtin.append_ #[t, t] o.type #[e' s, e' x])) : Sem Next) := by simp [execOp, ho, resolve, invoke, builtin]
  rw [hrun, es, ex]
  simp [Builtin.append_, run_underlying t1, sizeOf, typeInfo, t2, Builtin.lenOf, hroom, t4, hf, Addr.add_lit, r1]
 obtain ⟨w', cur', hrun, r2, r3, r4, r5, r6, r7, r8⟩ := hstore;rw [hrun]
 have rsz : cur'.size = cur.size := by
  rw [← Array.length_toList, r3, ← Array.length_toList (xs := cur)];simp only [setAt, List.length_append, List.length_take, List.length_drop, Array.length_toList]
  omega
 have hdf : Diff ρ id w w' := ⟨r6, r7, r8, by omega, fun q _ hne => r4 q (hne ow g1)⟩
 have hM : ∀ q, q < w.heap.size → qz M0 (ji ρ id (some ow)) q → qz M0 ρ q := by
  rintro q hq (h | ⟨j, o, h, rfl⟩)
  ·exact .inl h
  ·by_cases hj : j = id
   ·subst hj; rw [qx] at h; cases h; exact .inr ⟨j, ow, g1, rfl⟩
   ·exact .inr ⟨j, o, by simpa [ji, hj] using h, rfl⟩
 have hh : ∀ q, q < w.heap.size → ¬ qz M0 ρ q → w'.heap[q]? = w.heap[q]? := fun q _ hno => r4 q fun he => hno (.inr ⟨id, ow, g1, he.symm⟩)
 have hlen : (xs.take a ++ xs.drop b ++ xs.drop (a + (xs.length - b))).length = xs.length := by simp; omega
 have hrow : (cur'.toList.drop ow.o).take (xs.length * (k + 1)) = ((cur.toList.drop ow.o).take (xs.length * (k + 1))).take (a * (k + 1)) ++ news ++ ((cur.toList.drop ow.o).take (xs.length * (k + 1))).drop ((a + (xs.length - b)) * (k + 1)) := by
  rw [r3, hmul, ← hnl];exact q26 (by rw [hnl, hsub]; omega) (by rw [hcl]; omega)
 have hfits : Fits w' (qz M0 (ji ρ id (some ow))) (xs.take a ++ xs.drop b ++ xs.drop (a + (xs.length - b))).flatten ((cur'.toList.drop ow.o).take (xs.length * (k + 1))) := by
  rw [hrow, List.flatten_append, List.flatten_append, ← xh (k := k + 1) a g6, ← vm (k := k + 1) (a + (xs.length - b)) g6];exact (((g7.take _).append hfnew).append (g7.drop _)).mono hh hM
 obtain ⟨k1, k2⟩ := j9 (id := id) (x := some ow) (blk' := .arr e (k + 1) (xs.take a ++ xs.drop b ++ xs.drop (a + (xs.length - b)))) none hm hdf (fun o ho => by cases ho; exact ⟨.inr ⟨ow, g1, rfl⟩, by rw [r5]; exact (hm.fresh id ow g1).2⟩) (.inr ⟨rfl, .inr g1⟩) (fun _ b _ _ => z5 b) (.inl rfl)
  (.inr ⟨ow, cur', qx _ _ _, r2, by rw [hlen]; exact g3, g4, g5.imp (fun h => h) (fun h => by rw [rsz]; exact h), fun c hc => by
    rcases List.mem_append.1 hc with hc | hc
    ·rcases List.mem_append.1 hc with hc | hc
     ·exact g6 c (List.mem_of_mem_take hc)
     ·exact g6 c (List.mem_of_mem_drop hc)
    ·exact g6 c (List.mem_of_mem_drop hc), by rw [hlen]; exact hfits⟩)
 exact ⟨_, k1, k2, .inr ⟨ow, qx _ _ _, Nat.zero_le _, by omega, ow.o, by simp, fun _ => by simp⟩⟩
theorem qzi {α : Type} {f0 : α → List G} {l : List α} {o : Oper} {mem : Mem} {ev : Operand → TV} {s x : Operand} {t e : TypeId} {k by_ id a b N : Nat} (ho : o.op = .call ⟨.builtin .append, #[s, x], #[t, t]⟩) (ha : appK E.P t = some (e, k + 1, by_ + 1)) (hs : ev s = .osl id (k + 1) 0 a) (hx : ev x = .osl id (k + 1) b N)
  (hl : qr mem id = some (.arr e (k + 1) (l.map f0))) (hN : l.length = N) (hab : a ≤ b) (hbN : b ≤ N) (h0 : 0 < N) :
  EffW E o mem ev (.osl id (k + 1) 0 (a + (N - b))) ((id, .arr e (k + 1) ((l.take a ++ l.drop b ++ l.drop (a + (N - b))).map f0)) :: mem) none := by
 have := qzh ho ha hs hx hl (by rw [List.length_map]; exact hN) hab hbN h0
 simpa only [List.map_append, List.map_take, List.map_drop] using this
theorem qzj {α : Type} {f0 : α → List G} {l : List α} {o : Oper} {mem : Mem} {ev : Operand → TV} {t el e : TypeId} {x lo hi : Operand} {id k M N : Nat} {a c : Int} {b : Bool} {ka kc : IntKind} (ho : o.op = .slice t x (some lo) (some hi) none) (ht : E.P.underlying t = some (.slice el)) (hk : tyK E.P el = some (k, b)) (hx : ev x = .osl id k 0 M)
  (hlo : ev lo = .g (.lit (.int ka a))) (hhi : ev hi = .g (.lit (.int kc c))) (h0 : 0 ≤ a) (h1 : a ≤ c) (hN : l.length = N) (h2 : c ≤ (N : Int)) (hl : qr mem id = some (.arr e k (l.map f0))) (hM : 0 < N) : Eff E o mem ev (.osl id k a.toNat c.toNat) :=
 q28 ho ht hk hx hlo hhi h0 h1 (by rw [List.length_map, hN]; exact h2) hl (by rw [List.length_map, hN]; exact hM)
theorem qwr {α : Type} {l : List α} {a b N : Nat} (hN : l.length = N) (hab : a ≤ b) (hbN : b ≤ N) : (l.take a ++ l.drop b ++ l.drop (a + (N - b))).length = N := by simp; omega
end
end Go.Sim
set_option maxRecDepth 10000
namespace Go.Sim
open Go.Proofs
def qkv (a0 : List S5100) (a1 : Int) (a2 : Int) : (List S5100) × Nat :=
 (bif decide (a1 = a2) then (a0, List.length a0) else (List.take (Int.toNat ((((Int.toNat a1) + ((List.length a0) - (Int.toNat a2))) - (0) : Nat) : Int)) (List.take (Int.toNat a1) a0 ++ List.drop (Int.toNat a2) a0 ++ List.drop ((Int.toNat a1) + ((List.length a0) - (Int.toNat a2))) a0), (Int.toNat a1) + ((List.length a0) - (Int.toNat a2))))
theorem q9h {g : GL} (a0 : List S5100) (a1 : Int) (a2 : Int)  (hA : 0 ≤ a1) (hAB : a1 ≤ a2) (hB : a2 ≤ (List.length a0 : Int)) (hL : a0.length ≤ 1000000)  : ConT (EG g) 91 [.osl 0 16 0 (List.length a0), .g (G.int a1), .g (G.int a2)] 101 16 (List.map S5100.c a0) (List.map S5100.c (qkv a0 a1 a2).1) (qkv a0 a1 a2).2 := by
 generalize hR : qkv a0 a1 a2 = R;unfold qkv at hR;refine qtm Tryz.func91 rfl rfl fun w0 M0 x => ?_;refine qfp (f := S5100.c) (l := a0) 0 rfl fun hla0 => ?_;refine qb ?_;refine qa [.w] ?_;refine sw (xc 6 101 16 rfl rfl rfl) rfl ?_;refine qc ?_;refine qb ?_;refine qa [.p, .p, .p, .p, .p, .p] ?_;refine su (zd rfl rfl) rfl ?_;refine sm rfl rfl ?_;refine sm rfl rfl ?_;refine su (zd rfl rfl) rfl ?_;refine su (qkk rfl Tryz.underlying40 rfl) rfl ?_;refine su (q27 rfl Tryz.underlying40 vy rfl rfl rfl rfl hA hAB hB (Int.le_refl _)) rfl ?_;refine qc ?_;refine qb ?_;refine qb ?_;refine qa [.p, .p, .p] ?_;refine sm rfl rfl ?_;refine sm rfl rfl ?_;refine su (jr rfl rfl rfl) rfl ?_;refine qc ?_;refine ql _ rfl (fun h1 => ?_) (fun h1 => ?_)
 ·replace hR := zk hR h1;refine qb ?_;refine qa [.p, .p] ?_;refine su (zd rfl rfl) rfl ?_;refine su (je rfl rfl) rfl ?_;refine qc ?_;refine qo ?_;subst hR;show (∃ t_, _ ∧ _) ∧ MemL _ _;exact ⟨⟨_, rfl, rfl⟩, rfl, trivial⟩
 ·replace h1 : (decide (a1 = a2)) = false := h1;replace hR := zl hR h1;(try simp only [bB] at h1);refine qn ?_;refine qb ?_;refine qa [.p, .p, .p] ?_;refine su (zd rfl rfl) rfl ?_;refine su (qkk rfl Tryz.underlying40 rfl) rfl ?_;refine sa rfl rfl ?_;refine qc ?_;refine qb ?_;refine zw [.p, .p, .p, .p, .p, .p, .w, .p] (by kernel_rfl) ?_;refine su (zd rfl rfl) rfl ?_;refine sm rfl rfl ?_;refine su (qvz (a := 0) (c := Int.toNat a1) rfl Tryz.underlying40 vy rfl qcy (qcz rfl (by omega)) (by omega) (by omega)) rfl ?_;refine su (zd rfl rfl) rfl ?_;refine sm rfl rfl ?_;refine su (qvz (a := Int.toNat a2) (c := List.length a0) rfl Tryz.underlying40 vy rfl (qcz rfl (by omega)) qcy (by omega) (by omega)) rfl ?_;refine sw (qzi (f0 := S5100.c) (l := a0) rfl qkw rfl rfl rfl rfl (by omega) (by omega) (by omega)) rfl ?_;refine su (je rfl rfl) rfl ?_;refine qc ?_;refine qb ?_;refine qa [.p, .p, .p, .p, .r, .w] ?_;refine su (zd rfl rfl) rfl ?_;refine su (zd rfl rfl) rfl ?_;refine su (qm7 rfl Tryz.underlying40 rfl) rfl ?_;refine sm rfl rfl ?_;refine sr (qzj (f0 := S5100.c) (l := List.take (Int.toNat a1) a0 ++ List.drop (Int.toNat a2) a0 ++ List.drop ((Int.toNat a1) + ((List.length a0) - (Int.toNat a2))) a0) rfl Tryz.underlying40 vy rfl rfl rfl (by omega) (by omega) (qwr rfl (by omega) (by omega)) (by omega) rfl (by omega)) rfl ?_;refine jb rfl rfl (qtn (f0 := S5100.c) (l := List.take (Int.toNat a1) a0 ++ List.drop (Int.toNat a2) a0 ++ List.drop ((Int.toNat a1) + ((List.length a0) - (Int.toNat a2))) a0) (a := Int.toNat ((((Int.toNat a1) + ((List.length a0) - (Int.toNat a2))) - (0) : Nat) : Int)) rfl Tryz.underlying40 qh8 rfl (((qwr rfl (by omega) (by omega))).trans (by omega)) rfl rfl rfl) ?_;refine qc ?_;refine qb ?_;refine qa [.p, .p] ?_;refine su (zd rfl rfl) rfl ?_;refine su (je rfl rfl) rfl ?_;refine qc ?_;refine qo ?_;subst hR;show (∃ t_, _ ∧ _) ∧ MemL _ _;exact ⟨⟨_, rfl, rfl⟩, rfl, trivial⟩
section
variable {E : Env} {w0 : World} {M0 : Nat → Prop}
theorem qzk {α : Type} {l : List α} {i : Nat} {a : α} (h : l[i]? = some a) : l.set i a = l := by
 obtain ⟨h1, h2⟩ := List.getElem?_eq_some_iff.1 h;rw [← h2]; exact List.set_getElem_self h1
end
section
variable {E : Env} {w0 : World} {M0 : Nat → Prop}
def ConP (E : Env) (f : FuncId) (args : List G) (e : TypeId) (k : Nat) (xs : List (List G)) (gp : G) (c : Value) : Prop :=
 ∀ w M (vs : List Value), (∀ b, M b → b < w.heap.size) → GlOk E w M → FitsT w M args vs → Calls E.P f vs.toArray w fun e' w' => ∃ v1, e' = .returned (.tuple #[v1, c]) ∧ Grow w w' ∧ NewS w.heap.size e k xs [gp] w' M v1
theorem ConP.con {f : FuncId} {args : List G} {e : TypeId} {k : Nat} {xs : List (List G)} {gp : G} {c : Value} (hk : 0 < k) (h : ConP E f args e k xs gp c) : Con E f args (.tup [.agg [.sl k xs, gp], .lit c]) :=
 fun w M vs h1 h2 h3 => (h w M vs h1 h2 h3).mono fun _ _ ⟨v1, h4, h5, h6⟩ => ⟨_, h4, h5, [v1, c], rfl, qrw hk h6, rfl, trivial⟩
def q29 (E : Env) (fn : Func) (e : TypeId) (k : Nat) (xs : List (List G)) (gp : G) (c : Value) : Exit → ASt → Prop
 | .ret, s | .normal, s => ∃ t ty t2 b g0, fn.results = #[.cell t ty, .tmp t2] ∧ tyK E.P ty = some (2, true) ∧ s.get t = .ptr b 0 ∧ s.get t2 = .g (.lit c) ∧ GSub g0 gp ∧
   ((∃ id N, qr s.mem b = some (.box [.osl id k 0 N, .g g0]) ∧ qr s.mem id = some (.arr e k xs) ∧ xs.length = N) ∨ (qr s.mem b = some (.box [.g (.lit (.slice none 0 0)), .g g0]) ∧ xs = []))
 | _, _ => False
theorem qtz {f : FuncId} {fn : Func} {c : Code} {args : List G} {e : TypeId} {k : Nat} {xs : List (List G)} {gp : G} {cv : Value} (hf : E.P.funcs[f]? = some fn) (hb : fn.body = some c) (hn0 : Nat.ble args.length fn.ntmps = true)
  (h : ∀ w0 M0, AWp E w0 M0 c (q29 E fn e k xs gp cv) ⟨fn.ntmps, qah args, []⟩) (hbw : E.bow = [] := by rfl) (hrn : E.rnd = none := by rfl) (hdf : E.mks = false := by rfl) (hnb : E.nb = 0 := by rfl) : ConP E f args e k xs gp cv := by
 intro w M vs hM hgl hv;have hn := Nat.le_of_ble_eq_true hn0;have hlen := hv.length;refine calls_of_wp hf hb ?_
 have ha : ARel E w M ⟨fn.ntmps, qah args, []⟩ { tmps := vs.toArray ++ Array.replicate (fn.ntmps - vs.toArray.size) undef, defers := [] } w := by
  refine ⟨fun _ => rfl, ?_, fun _ => none, ?_, Marks.nil, ?_⟩
  ·simp; omega
  ·refine ⟨BelowX.refl _ w, hM, ?_, ?_, ?_, ?_, (fun id x h => by rw [hbw] at h; cases h), ⟨(fun b h => absurd h (jy hbw)), Nat.le_trans (Nat.le_of_eq hnb) (Nat.zero_le _)⟩, ?_⟩
   ·intro g vs hg;have := hgl g vs hg
    have hiff : ∀ b, qz M (fun _ => none) b → M b := by rintro b (h | ⟨_, _, h, _⟩); exact h; cases h
    exact ⟨⟨fun h => this.1.1 (hiff _ h), this.1.2⟩, this.2.mono (fun _ _ _ => rfl) (fun b _ h => hiff b h) this.1.1⟩
   ·intro _ _ h; cases h
   ·intro _ _ h; cases h
   ·intro _ _ _ _ h; cases h
   ·intro _ _ h; cases h
  ·intro i;have hv' : FitsT w (qz M (fun _ => none)) args vs := hv.mono (fun _ _ _ => rfl) (by rintro b _ (h | ⟨_, _, h, _⟩); exact h; cases h);have := qai (ρ := fun _ => none) (fn.ntmps - vs.length) hv' i;show TRel _ _ _ (qah args i) _;rw [Array.getD_eq_getD_getElem?];rw [show (vs.toArray ++ Array.replicate (fn.ntmps - vs.toArray.size) undef) = (vs ++ List.replicate (fn.ntmps - vs.length) undef).toArray by simp];rw [List.getElem?_toArray];exact this
 refine wp_mono (qjt (h w M _ w ha) hrn) ?_;rintro ex a' w' ⟨s', ha', hq⟩
 have fin : (∃ t ty t2 b g0, fn.results = #[.cell t ty, .tmp t2] ∧ tyK E.P ty = some (2, true) ∧ s'.get t = .ptr b 0 ∧ s'.get t2 = .g (.lit cv) ∧ GSub g0 gp ∧
   ((∃ id N, qr s'.mem b = some (.box [.osl id k 0 N, .g g0]) ∧ qr s'.mem id = some (.arr e k xs) ∧ xs.length = N) ∨ (qr s'.mem b = some (.box [.g (.lit (.slice none 0 0)), .g g0]) ∧ xs = []))) →
   a'.defers = [] ∧ ∃ v, (results fn a'.tmps).run E.P w' = .ok v w' ∧ (∃ v1, Ending.returned v = .returned (.tuple #[v1, cv]) ∧ Grow w w' ∧ NewS w.heap.size e k xs [gp] w' M v1) := by
  rintro ⟨t, ty, t2, b, g0, hr, hty, hp, hp2, hsub0, hbx⟩;obtain ⟨ρ, hm, _, ht⟩ := ha'.ex;have h1 := ht t;rw [hp] at h1;have h1b := ht t2;rw [hp2] at h1b;have h1b : a'.tmps.getD t2 undef = cv := h1b;obtain ⟨owb, g1, g2⟩ := h1
  obtain ⟨tv, hbx0⟩ : ∃ tv, qr s'.mem b = some (.box [tv, .g g0]) := by
   rcases hbx with ⟨_, _, q, _⟩ | ⟨q, _⟩
   ·exact ⟨_, q⟩
   ·exact ⟨_, q⟩
  obtain ⟨owb', eb, cs, q1, q2, q3, q4⟩ := hm.blk b _ hbx0
  have : owb' = owb := by rw [g1] at q1; simpa using q1.symm
  subst this
  match cs, q4 with
  | [sv, u], ⟨⟨r1, r2⟩, ⟨r3, r4⟩, _⟩ =>
  have hc : ∀ j v, [sv, u][j]? = some v → w'.cell? ⟨owb'.b, owb'.o + 0 + j, none⟩ = some v := by
   intro j v hj;rw [cell_of_row w' _ _ _ _ _ q3, q2]
   simpa using hj
  have hres : (results fn a'.tmps).run E.P w' = .ok (.tuple #[.agg [sv, u].toArray, cv]) w' := by
   rw [qc9, hr];have := kh hty (show [sv, u].length = 2 from rfl) hc;rw [Nat.add_zero] at this
   have g2' : a'.tmps[t]?.getD undef = .pointer (some ⟨owb'.b, owb'.o, none⟩) := by
    rw [← Array.getD_eq_getD_getElem?]; simpa using g2
   have h1b' : a'.tmps[t2]?.getD undef = cv := by rw [← Array.getD_eq_getD_getElem?]; exact h1b
   simp [qfy, g2', h1b', asAddr, this]
  refine ⟨ha'.defers hdf, _, hres, .agg [sv, u].toArray, rfl, hm.below.grow (fun _ => jy hbw), sv, [u], rfl, ?_⟩
  rcases hbx with ⟨id, N, hbx, h3, rfl⟩ | ⟨hbx, rfl⟩
  ·rw [hbx0] at hbx
   have htv : tv = .osl id k 0 xs.length := by injection hbx with hbx; injection hbx with hbx; injection hbx
   subst htv
   rcases r1 with ⟨k1, _, k2, k3⟩ | ⟨ow, k1, _, k2, p, k3, k4⟩
   ·exact .inl ⟨k3, List.eq_nil_of_length_eq_zero k2, ⟨gp.mono (hsub0 _ _ _ r3) (fun _ _ _ => rfl) (fun _ _ h => .inl h), r4⟩, trivial⟩
   ·rcases hm.blk id _ h3 with ⟨l1, l2⟩ | ⟨ow', vs', l1, l2, l3, l4, l5, l6, l7⟩
    ·rw [k1] at l1; cases l1
    ·have : ow' = ow := by rw [k1] at l1; simpa using l1.symm
     subst this;have hno : ¬ M ow'.b := fun h => qag hm k1 (by rw [hbw]; rfl) (.inl h)
     have hnl : w.heap.size ≤ ow'.b := by
      rcases (hm.fresh id ow' k1).1 with h | h
      ·exact h
      ·exact absurd h (jy hbw)
     have hsub : ∀ b', b' < w'.heap.size → (M b' ∨ b' = ow'.b) → qz M ρ b' := fun b' _ hb' => hb'.elim .inl fun h => .inr ⟨id, ow', k1, h.symm⟩;exact .inr ⟨ow', vs', p, by simpa using k3, fun h => by simpa using k4 h, hnl, hno, l2, l3, l4, l5, l6, l7.mono (fun _ _ _ => rfl) hsub, ⟨gp.mono (hsub0 _ _ _ r3) (fun _ _ _ => rfl) hsub, r4⟩, trivial⟩
  ·rw [hbx0] at hbx
   have htv : tv = .g (.lit (.slice none 0 0)) := by injection hbx with hbx; injection hbx with hbx; injection hbx
   subst htv;exact .inl ⟨r1, rfl, ⟨gp.mono (hsub0 _ _ _ r3) (fun _ _ _ => rfl) (fun _ _ h => .inl h), r4⟩, trivial⟩
 cases ex with
 | ret => exact fin hq
 | normal => exact fin hq
 | _ => exact hq.elim
theorem q9i {fn : Func} {e : TypeId} {k : Nat} {g0 gp : G} {c : Value} {s : ASt} {t t2 : Nat} {ty : TypeId} {b id : Nat} {α : Type} {f : α → List G} {l : List α} {N : Nat} (hr : fn.results = #[.cell t ty, .tmp t2]) (ht : tyK E.P ty = some (2, true)) (hp : s.get t = .ptr b 0) (hp2 : s.get t2 = .g (.lit c))
  (hs : GSub g0 gp) (hb : qr s.mem b = some (.box [.osl id k 0 N, .g g0])) (hi : qr s.mem id = some (.arr e k (l.map f))) (hN : (l.map f).length = N) : q29 E fn e k (l.map f) gp c .ret s := ⟨t, ty, t2, b, g0, hr, ht, hp, hp2, hs, .inl ⟨id, N, hb, hi, hN⟩⟩
theorem qkx {fn : Func} {e : TypeId} {k : Nat} {g0 gp : G} {c : Value} {s : ASt} {t t2 : Nat} {ty : TypeId} {b : Nat} {α : Type} {f : α → List G} (hr : fn.results = #[.cell t ty, .tmp t2]) (ht : tyK E.P ty = some (2, true)) (hp : s.get t = .ptr b 0) (hp2 : s.get t2 = .g (.lit c))
  (hs : GSub g0 gp) (hb : qr s.mem b = some (.box [.g (.lit (.slice none 0 0)), .g g0])) : q29 E fn e k (([] : List α).map f) gp c .ret s := ⟨t, ty, t2, b, g0, hr, ht, hp, hp2, hs, .inr ⟨hb, rfl⟩⟩
theorem qws (g : G) : GSub g g := fun _ _ _ h => h
theorem qnq {k : Nat} : GSub (.lit (.slice none 0 0)) (G.sl k []) := by
 intro w M u h;have h : u = .slice none 0 0 := h;rw [h]; exact qip k w M
theorem qzl {ρ : Rho} {mem : Mem} {w w' : World} {id : Nat} {e : TypeId} {k : Nat} {xs : List (List G)} {gp : G} {v c : Value} (hm : MRel E w0 M0 ρ mem w) (hf : qr mem id = none) (hg : Grow w w') (h : NewS w.heap.size e k xs [gp] w' (qz M0 ρ) v) :
  ∃ ρ', MRel E w0 M0 ρ' ((id, .arr e k xs) :: mem) w' ∧ Kept M0 none ρ w ρ' w' ∧ TRel w' (qz M0 ρ') ρ' (.tgl id k xs.length gp (.lit c)) (.tuple #[v, c]) := by
 obtain ⟨ρ', h1, h2, h3⟩ := qrx hm hf hg h;refine ⟨ρ', h1, h2, ?_⟩;obtain ⟨vs, sv, us, q1, q2, q3, q4⟩ := h3
 match vs, q2, us, q3 with
 | [], _, [u], ⟨q3, _⟩ => exact ⟨sv, u, c, by rw [q1]; rfl, q3, rfl, q4⟩
theorem qwt {α : Type} {f0 : α → List G} {l : List α} {o : Oper} {mem : Mem} {ev : Operand → TV} {f : FuncId} {aps : Array Operand} {ts : Array TypeId} {args : List G} {e : TypeId} {k : Nat} {gp : G} {c : Value} (id : Nat) (ho : o.op = .call ⟨.value (.func f), aps, ts⟩)
  (hk : ze E.P f) (hev : ev (.func f) = .g (.lit (.func (.func f) #[] #[]))) (hc : ConP E f args e k (l.map f0) gp c) (ha : aps.toList.map ev = args.map TV.g) (hf : qr mem id = none) : EffW E o mem ev (.tgl id k l.length gp (.lit c)) ((id, .arr e k (l.map f0)) :: mem) none := by
 intro w0 M0 ρ w e' hm hx;obtain ⟨fn, h1, h2, h3⟩ := hk
 have hef : e' (.func f) = .func (.func f) #[] #[] := by
  have := hx (.func f) (by rw [ho]; simp [Op.operands, Call.operands]);rw [hev] at this;exact this
 have hv : FitsT w (qz M0 ρ) args (aps.toList.map e') := xw (fun x hx' => hx x (by rw [ho]; simp [Op.operands, Call.operands]; exact .inr (by simpa using hx'))) ha
 have hrun : (execOp e' o).run E.P w = .ok (.enter f (aps.toList.map e').toArray) w := by
  simp [execOp, ho, resolve, hef, Deferred.ofValue, invoke, jt h1 h2 h3, ← Array.toList_map]
 rw [hrun];refine (hc w (qz M0 ρ) _ hm.lt hm.glob hv).mono ?_;rintro _ w' ⟨v, rfl, hg, hr⟩;obtain ⟨ρ', g1, g2, g3⟩ := qzl (c := c) hm hf hg hr;rw [List.length_map] at g3;exact ⟨_, rfl, ρ', g1, g2, g3⟩
theorem qnr {o : Oper} {ev : Operand → TV} {x : Operand} {id k hi : Nat} {gp r : G} (ho : o.op = .extract x 0) (hx : ev x = .tgl id k hi gp r) (mem : Mem) : Eff E o mem ev (.agl [] id k hi [gp]) :=
 jh (fun w M ρ e hev => by
  have h1 := hev x (by rw [ho]; simp [Op.operands]);rw [hx] at h1;obtain ⟨sv, u, z, h2, h3, h4, h5⟩ := h1;refine ⟨.agg #[sv, u], ?_, [], sv, [u], rfl, trivial, ⟨h3, trivial⟩, h5⟩
  simp [execOp, ho, Instr.extract, h2]) mem
theorem qns {o : Oper} {ev : Operand → TV} {x : Operand} {id k hi : Nat} {gp r : G} (ho : o.op = .extract x 1) (hx : ev x = .tgl id k hi gp r) (mem : Mem) : Eff E o mem ev (.g r) :=
 jh (fun w M ρ e hev => by
  have h1 := hev x (by rw [ho]; simp [Op.operands]);rw [hx] at h1;obtain ⟨sv, u, z, h2, h3, h4, h5⟩ := h1;refine ⟨z, ?_, h4⟩
  simp [execOp, ho, Instr.extract, h2]) mem
theorem qwu {o : Oper} {ev : Operand → TV} {x : Operand} {id k hi : Nat} {gp r : G} (ho : o.op = .move x) (h : ev x = .tgl id k hi gp r) (mem : Mem) : Eff E o mem ev (.tgl id k hi gp r) := qfz ho h mem
theorem qpk {o : Oper} {mem : Mem} {ev : Operand → TV} {f : FuncId} {aps : Array Operand} {ts : Array TypeId} {args : List G} {r : G} [Pure r] (ho : o.op = .call ⟨.value (.func f), aps, ts⟩)
  (hk : ze E.P f) (hev : ev (.func f) = .g (.lit (.func (.func f) #[] #[]))) (hc : Con E f args r)
  (ha : ∀ w0 M0 (ρ : Rho) w (e : Operand → Value), MRel E w0 M0 ρ mem w → (∀ z ∈ aps.toList, TRel w (qz M0 ρ) ρ (ev z) (e z)) → FitsT w (fun _ => False) args (aps.toList.map e)) : Eff E o mem ev (.g r) := by
 intro w0 M0 ρ w e hm hx;obtain ⟨fn, h1, h2, h3⟩ := hk
 have hef : e (.func f) = .func (.func f) #[] #[] := by
  have := hx (.func f) (by rw [ho]; simp [Op.operands, Call.operands]);rw [hev] at this;exact this
 have hv : FitsT w (fun _ => False) args (aps.toList.map e) := ha w0 M0 ρ w e hm (fun x hx' => hx x (by rw [ho]; simp [Op.operands, Call.operands]; exact .inr (by simpa using hx')));have hgl : GlOk E w (fun _ => False) := fun g vs hg => ⟨⟨fun h => h, (hm.glob g vs hg).1.2⟩, (hm.glob g vs hg).2.mono (fun _ _ _ => rfl) (fun _ _ h => h.elim) (hm.glob g vs hg).1.1⟩
 have hrun : (execOp e o).run E.P w = .ok (.enter f (aps.toList.map e).toArray) w := by
  simp [execOp, ho, resolve, hef, Deferred.ofValue, invoke, jt h1 h2 h3, ← Array.toList_map]
 rw [hrun];refine (hc w (fun _ => False) _ (fun _ h => h.elim) hgl hv).mono ?_;rintro e' w' ⟨v, rfl, g1, g2⟩;exact ⟨v, rfl, g1, Pure.pure g2⟩
theorem qr8 {mem : Mem} {ev : Operand → TV} {x y : Operand} {id k hi : Nat} {gp gy : G} {e : TypeId} {α : Type} {f : α → List G} {l : List α} (hx : ev x = .agl [] id k hi [gp]) (hb : qr mem id = some (.arr e k (l.map f))) (hl : l.length = hi) (hy : ev y = .g gy) :
  ∀ w0 M0 (ρ : Rho) w (e' : Operand → Value), MRel E w0 M0 ρ mem w → (∀ z ∈ #[x, y].toList, TRel w (qz M0 ρ) ρ (ev z) (e' z)) → FitsT w (fun _ => False) [G.agg [G.sl k (l.map f), gp], gy] (#[x, y].toList.map e') := by
 intro w0 M0 ρ w e' hm h;have h1 := h x (by simp);have h2 := h y (by simp);rw [hx] at h1;rw [hy] at h2;subst hl;obtain ⟨vs, sv, us, q1, q2, q3, q4⟩ := h1
 match vs, q2, us, q3 with
 | [], _, [u], ⟨⟨q3, q3'⟩, _⟩ =>
 have hsl : TRel w (qz M0 ρ) ρ (.osl id k 0 l.length) sv := by
  rcases q4 with ⟨k1, k2, k3⟩ | ⟨ow, p, k1, k2, k3, k4⟩
  ·exact .inl ⟨k1, rfl, k2, k3⟩
  ·exact .inr ⟨ow, k1, Nat.zero_le _, k2, p, by simpa using k3, fun h => by simpa using k4 h⟩
 have hv : qc8 mem (.osl id k 0 l.length) = some (.sl k (l.map f)) := by
  simp [qc8, hb]
  rw [show l.length = (l.map f).length by simp, List.take_length]
 have hg := qel hm hsl hv (qp2 _)
 have ho : sv.oneCell' = true := by
  obtain ⟨a, cap, h, _⟩ := hg;rw [h]; rfl
 exact ⟨⟨[sv, u], by rw [q1]; rfl, ⟨hg, ho⟩, ⟨gp.mono q3 (fun _ _ _ => rfl) (fun _ _ h => h.elim), q3'⟩, trivial⟩, gy.mono h2 (fun _ _ _ => rfl) (fun _ _ h => h.elim), trivial⟩
theorem qwv {w : World} {M : Nat → Prop} {ρ : Rho} : ∀ {cs : List G} {vs : List Value}, FitsT w M cs vs → ArgsT w M ρ (cs.map TV.g) vs
 | [], [], _ => trivial
 | _ :: _, _ :: _, h => ⟨h.1, qwv h.2⟩
 | [], _ :: _, h => h.elim
 | _ :: _, [], h => h.elim
theorem qt0 {o : Oper} {mem : Mem} {ev : Operand → TV} {f : FuncId} {z x : Operand} {ts : Array TypeId} {fv : G} {cap : List G} {k i : Nat} {b b' : Blk} {r : G} (p c : Nat) (ho : o.op = .call ⟨.value z, #[x], ts⟩)
  (hf : FnIs fv f cap) (hk : ze E.P f) (hz : ev z = .g fv) (hc : ConB E f (.eptr p k i 0 :: cap.map TV.g) [(p, b)] r [(p, b')]) (ha : ev x = .eptr c k i 0) (hl : qr mem c = some b) (hσ : qox [(p, c)] [(p, b)] [(p, b')] = true) (hg : b.ground = true) :
  EffW E o mem ev (.g r) ((c, b') :: mem) none := by
 intro w0 M0 ρ w e hm hx;obtain ⟨fn, h1, h2, h3⟩ := hk
 have hp : qr [(p, c)] p = some c := by simp [qr]
 obtain ⟨fs, cs, hef, hfs, hcs⟩ : (G.fn (.func f) [] cap).p w (qz M0 ρ) (e z) := by
  have := hx z (by rw [ho]; simp [Op.operands, Call.operands]);rw [hz] at this;exact hf _ _ _ this
 obtain rfl : fs = [] := by cases fs with
  | nil => rfl
  | cons => exact hfs.elim
 have h4 := hx x (by rw [ho]; simp [Op.operands, Call.operands]);rw [ha] at h4;obtain ⟨ow, q1, q2⟩ := h4
 have := qlw (res := (execOp e o).run E.P w) (vs := e x :: cs) [(p, c)] hc hm ⟨⟨c, hp, hl, hg⟩, trivial⟩ hσ (fun ρc hρ => ⟨⟨ow, (hρ p c hp).trans q1, q2⟩, qwv hcs⟩) (by
  simp [execOp, ho, resolve, hef, Deferred.ofValue, invoke, jt h1 h2 h3])
 have he : renM [(p, c)] [(p, b')] ++ mem = (c, b') :: mem := by simp [renM, hp]
 rwa [he] at this
end
end Go.Sim
set_option maxRecDepth 10000
namespace Go.Sim
open Go.Proofs
def qgs (rec1 : Nat → (List S5102) → List S5102) (k3 : Nat) (x6 : List S5102) : List S5102 :=
 rec1 (k3 + 1) x6
def qb9 (a1 : Int) : List S5102 → Nat → (List S5102) → List S5102
 | [], k3, x1 => x1
 | y4 :: t5, k3, x1 => (bif (qhc [decide (y4.Carrier = y4.Carrier), decide (y4.fFrom = y4.fFrom), decide (min y4.fTo a1 = y4.fTo)]) || (decide (y4.fFrom ≤ min y4.fTo a1)) then qgs (fun k_ z0_ => qb9 a1 t5 k_ z0_) k3 (x1 ++ [(S5102.mk y4.Carrier y4.fFrom (min y4.fTo a1))]) else qgs (fun k_ z0_ => qb9 a1 t5 k_ z0_) k3 x1)
def qzm (a0 : List S5102) (a1 : Int) : List S5102 :=
 qb9 a1 a0 0 []
theorem q9j {g : GL} (a0 : List S5102) (a1 : Int)  (hb : a0.length ≤ 1000000)  : Con (EG g) 89 [G.sl 3 (List.map S5102.c a0), G.int a1] (G.sl 3 (List.map S5102.c (qzm a0 a1))) := by
 generalize hR : qzm a0 a1 = R;unfold qzm at hR;refine qm Tryz.func89 rfl rfl fun w0 M0 => ?_;refine zp (f := S5102.c) (l := a0) 0 rfl fun hla0 => ?_;refine qb ?_;refine qa [.w] ?_;refine sw (xc 4 104 3 rfl rfl rfl) rfl ?_;refine qc ?_;refine qb ?_;refine qa [.w] ?_;refine sw (xc 5 104 3 rfl rfl rfl) rfl ?_;refine qc ?_;refine qb ?_;refine qb ?_;refine qa [.p, .p, .p] ?_;refine sm rfl rfl ?_;refine su (za (f := S5102.c) (l := a0) rfl Tryz.underlying99 rfl) rfl ?_;refine sm rfl rfl ?_;refine qc ?_;refine qq ?_;refine zh (γ := Nat × (List S5102) × (List S5102)) (fun g => ([(1, .g (G.int a1)), (5, .osl 5 3 0 (List.length g.2.2)), (9, .g (G.sl 3 (List.map S5102.c a0))), (10, .g (G.int (List.length a0 : Int))), (11, .g (G.int ((g.1 : Nat) : Int)))], [(5, .arr 104 3 (List.map S5102.c g.2.2))])) (fun g => g.2.2.length ≤ g.1 ∧ a0.drop g.1 = g.2.1 ∧ qb9 a1 g.2.1 g.1 g.2.2 = R) (fun g => List.length g.2.1) ⟨rfl, (0, a0, []), jA, ⟨rfl, trivial⟩, rfl, ⟨iH, rfl, (by exact hR)⟩, trivial⟩ ?_
 ·rintro ⟨k3, t5, x1⟩ ⟨iv1_0, hd, hR⟩;replace hd : a0.drop k3 = t5 := hd;replace hR : qb9 a1 t5 k3 x1 = R := hR;replace iv1_0 : x1.length ≤ k3 := iv1_0;refine qb ?_;refine qa [.p] ?_;refine su (zg rfl rfl rfl) rfl ?_;refine qc ?_;refine zp (f := S5102.c) (l := a0) 9 rfl fun hlz1 => ?_;refine qb ?_;refine ql _ rfl (fun h1 => ?_) (fun h1 => ?_)
  ·replace h1 : (decide (((k3 : Nat) : Int) < (List.length a0 : Int))) = true := h1;obtain ⟨y4, t5, rfl, hx1, hd⟩ := zq hd (decT h1);replace h1 := decT h1;rw [qb9] at hR;(try dsimp only at hR);refine qn ?_;refine kl (γ := (List S5102)) (fun g => ([(1, .g (G.int a1)), (5, .osl 5 3 0 (List.length g)), (9, .g (G.sl 3 (List.map S5102.c a0))), (10, .g (G.int (List.length a0 : Int))), (11, .g (G.int ((k3 : Nat) : Int)))], [(5, .arr 104 3 (List.map S5102.c g))])) (fun g => g.length ≤ k3 + 1 ∧ qgs (fun k_ z0_ => qb9 a1 t5 k_ z0_) k3 g = R) ?_ ?_
   ·refine qq ?_;refine qb ?_;refine qa [.p, .p, .w, .w] ?_;refine su (jd (f := S5102.c) (l := a0) (a := y4) rfl Tryz.underlying99 qbn rfl rfl (Int.natCast_nonneg _) hx1) rfl ?_;refine su (qp rfl qbn rfl rfl rfl) rfl ?_;refine sw (zc 7 rfl qq1 rfl rfl) rfl ?_;refine jb rfl rfl (qu (tv := .g (G.agg (S5102.c y4))) rfl qbn rfl rfl rfl rfl rfl) ?_;refine qc ?_;refine qb ?_;refine qa [.p, .r, .p, .r, .p, .r, .p, .p, .p, .w, .w] ?_;refine su (qy rfl qnt rfl) rfl ?_;refine sr (zo rfl ty9 rfl rfl rfl) rfl ?_;refine su (qy rfl qe5 rfl) rfl ?_;refine sr (zo rfl ty3 rfl rfl rfl) rfl ?_;refine su (qy rfl qe6 rfl) rfl ?_;refine sr (zo rfl ty3 rfl rfl rfl) rfl ?_;refine sm rfl rfl ?_;refine su (qqs rfl rfl rfl) rfl ?_;refine su (jg rfl qq1 rfl q6b (zz rfl (zz rfl (zz rfl kx))) rfl) rfl ?_;refine sw (zc 8 rfl qq1 rfl rfl) rfl ?_;refine jb rfl rfl (qu (tv := .g (G.agg [G.str y4.Carrier, G.int y4.fFrom, G.int (min y4.fTo a1)])) rfl qbn rfl rfl rfl rfl rfl) ?_;refine qc ?_;refine qb ?_;refine qa [.r, .r, .p, .p, .p, .r, .p, .r, .p, .p] ?_;refine sr (zm rfl qbn rfl rfl rfl rfl) rfl ?_;refine sr (zm rfl qbn rfl rfl rfl rfl) rfl ?_;refine su (qy6 [.string y4.Carrier, .int .i64 y4.fFrom, .int .i64 (min y4.fTo a1)] [.string y4.Carrier, .int .i64 y4.fFrom, .int .i64 y4.fTo] rfl qzn rfl rfl rfl rfl rfl) rfl ?_;refine sm rfl rfl ?_;refine sg rfl rfl (fun h => qy rfl qe5 rfl) rfl ?_;refine qgb rfl rfl rfl (z6 _ _) (fun h => zo rfl ty3 (gd h rfl) rfl rfl) rfl ?_;refine sg rfl rfl (fun h => qy rfl qe6 rfl) rfl ?_;refine qgb rfl rfl rfl (z6 _ _) (fun h => zo rfl ty3 (gd h rfl) rfl rfl) rfl ?_;refine sg rfl rfl (fun h => vp rfl (gd h rfl) (gd h rfl)) rfl ?_;refine su (jl rfl rfl rfl rfl) rfl ?_;refine qc ?_;refine ql _ rfl (fun h3 => ?_) (fun h3 => ?_)
    ·replace h3 : ((qhc [decide (y4.Carrier = y4.Carrier), decide (y4.fFrom = y4.fFrom), decide (min y4.fTo a1 = y4.fTo)]) || (decide (y4.fFrom ≤ min y4.fTo a1))) = true := h3;replace hR := zk hR h3;(try simp only [bB] at h3);refine qa [.p, .r, .p, .k, .p] ?_;refine su (zd rfl rfl) rfl ?_;refine sr (zm rfl qbn rfl rfl rfl rfl) rfl ?_;refine su (qv rfl Tryz.underlying99 qbn qq1 rfl (qw rfl jo) rfl (by exact lens rfl) (by decide)) rfl ?_;refine st_k rfl rfl (vi (f := S5102.c) (out := x1) (new := [(S5102.mk y4.Carrier y4.fFrom (min y4.fTo a1))]) rfl qq2 rfl rfl (qad rfl (qae (by decide) (by simp [S5102.c]))) (qi1 rfl) (by simp; omega)) rfl ?_;refine su (je rfl rfl) rfl ?_;refine qc ?_;exact ⟨rfl, x1 ++ [(S5102.mk y4.Carrier y4.fFrom (min y4.fTo a1))], jA, ⟨rfl, trivial⟩, rfl, ⟨iB, hR⟩, trivial⟩
    ·replace h3 : ((qhc [decide (y4.Carrier = y4.Carrier), decide (y4.fFrom = y4.fFrom), decide (min y4.fTo a1 = y4.fTo)]) || (decide (y4.fFrom ≤ min y4.fTo a1))) = false := h3;replace hR := zl hR h3;(try simp only [bB] at h3);refine qn ?_;exact ⟨rfl, x1, jA, ⟨rfl, trivial⟩, rfl, ⟨iB, hR⟩, trivial⟩
   ·rintro x6 ⟨jv1_0, hR⟩;replace jv1_0 : x6.length ≤ k3 + 1 := jv1_0;replace hR : qgs (fun k_ z0_ => qb9 a1 t5 k_ z0_) k3 x6 = R := hR;unfold qgs at hR;refine qa [.p, .p] ?_;refine su (zn rfl rfl rfl iE) rfl ?_;refine sm rfl rfl ?_;refine qc ?_;exact ⟨rfl, (k3 + 1, t5, x6), jA, ⟨rfl, trivial⟩, rfl, ⟨iB, hd, hR⟩, by simp⟩
  ·replace h1 : (decide (((k3 : Nat) : Int) < (List.length a0 : Int))) = false := h1;obtain rfl := z8 hd (decF h1);rw [qb9] at hR;refine zt ?_;refine qb ?_;refine qa [.p, .p] ?_;refine su (zd rfl rfl) rfl ?_;refine su (je rfl rfl) rfl ?_;refine qc ?_;refine qo ?_;subst hR;exact zb rfl (qdt rfl rfl)
end Go.Sim
set_option maxRecDepth 10000
namespace Go.Sim
open Go.Proofs
def qzo (a : S5100) (t : Int) : S5100 := S5100.mk (S115.mk a.Request.Name a.Request.Carrier a.Request.Kind a.Request.Terminal a.Request.Partner a.Request.Link (S45.mk a.Request.Period.fFrom t a.Request.Period.Days) a.Request.Minute a.Request.Seats a.Request.Size a.Request.Noise) a.Holder a.Leases a.Shares
def qzp (a : S5100) (t : Int) : S5100 := S5100.mk (S115.mk a.Request.Name a.Request.Carrier a.Request.Kind a.Request.Terminal a.Request.Partner a.Request.Link (S45.mk a.Request.Period.fFrom t a.Request.Period.Days) a.Request.Minute a.Request.Seats a.Request.Size a.Request.Noise) a.Holder (qzm a.Leases t) a.Shares
def qt1 (a : S5100) (d : Int) : S5100 × Int := bif decide (a.Request.Period.fTo < d) then (a, 30) else (qzp a (IntKind.i64.wrap (d - 1)), 0)
theorem q9k {g : GL} {l : List S5100} {i : Nat} {a0 : S5100} (a1 : Int) (ha : l[i]? = some a0) (hb : a0.Leases.length ≤ 1000000) : ConB (EG g) 88 [.eptr 0 16 i 0, .g (G.ref [G.int a1])] [(0, .arr 101 16 (l.map S5100.c))] (G.int (qt1 a0 a1).2) [(0, .arr 101 16 ((l.set i (qt1 a0 a1).1).map S5100.c))] := by
 generalize hR : qt1 a0 a1 = R;unfold qt1 at hR;have hi : i < l.length := (List.getElem?_eq_some_iff.1 ha).1;refine qaz Tryz.func88 rfl rfl rfl fun w0 M0 x => ?_;refine qb ?_;refine qa [.p] ?_;refine sa rfl rfl ?_;refine qc ?_;refine qb ?_;refine qa [.p, .p, .p, .p, .p] ?_;refine su (qap rfl rfl) rfl ?_;refine su (qdq rfl rfl) rfl ?_;refine su (xy rfl qca rfl) rfl ?_;refine su (xy rfl wt rfl) rfl ?_;refine su (qdu rfl rfl) rfl ?_;refine qc ?_;refine qb ?_;refine qb ?_;refine zw [.p, .p, .p, .p, .r, .p] (by kernel_rfl) ?_;refine su (qg rfl ty3 rfl) rfl ?_;refine su (qap rfl rfl) rfl ?_;refine su (qdq rfl rfl) rfl ?_;refine su (xy rfl qbh rfl) rfl ?_;refine sr (qhf rfl ty3 rfl rfl ha rfl) rfl ?_;refine su (ja rfl rfl rfl) rfl ?_;refine qc ?_;refine ql _ rfl (fun h1 => ?_) (fun h1 => ?_)
 ·replace hR := zk hR h1;refine qb ?_;refine qa [.p] ?_;refine sa rfl rfl ?_;refine qc ?_;refine qo ?_;subst hR;show ResOk _ _ _ _ ∧ MemL _ _;refine ⟨res1 rfl rfl, ?_, trivial⟩;show some (Blk.arr 101 16 (l.map S5100.c)) = some (Blk.arr 101 16 ((l.set i a0).map S5100.c));rw [qzk ha]
 ·replace hR := zl hR h1;refine qn ?_;refine qb ?_;refine qa [.p, .p, .p, .p, .p, .w] ?_;refine su (qap rfl rfl) rfl ?_;refine su (qg rfl ty3 rfl) rfl ?_;refine su (kw rfl rfl rfl) rfl ?_;refine su (qdq rfl rfl) rfl ?_;refine su (xy rfl qbh rfl) rfl ?_;refine jb rfl rfl (qrt (a' := qzo a0 (IntKind.i64.wrap (a1 - 1))) rfl ty3 rfl rfl rfl ha rfl rfl rfl) ?_;refine qc ?_;have hb2 : (l.set i (qzo a0 (IntKind.i64.wrap (a1 - 1))))[i]? = some (qzo a0 (IntKind.i64.wrap (a1 - 1))) := List.getElem?_set_self hi;refine qb ?_;refine zw [.p, .p, .p, .p, .r, .p, .p, .p, .p, .p, .w] (by kernel_rfl) ?_;refine su (qap rfl rfl) rfl ?_;refine su (qap rfl rfl) rfl ?_;refine su (qdq rfl rfl) rfl ?_;refine su (xy rfl qcb rfl) rfl ?_;refine sr (qhf rfl qgt rfl rfl hb2 rfl) rfl ?_;refine su (qg rfl ty3 rfl) rfl ?_;refine su (kw rfl rfl rfl) rfl ?_;refine su (qf rfl q9l rfl (Con.lend (q9j a0.Leases (IntKind.i64.wrap (a1 - 1)) hb)) (qe rfl (qe rfl qj))) rfl ?_;refine su (qdq rfl rfl) rfl ?_;refine su (xy rfl qcb rfl) rfl ?_;refine jb rfl rfl (qrt (a' := qzp a0 (IntKind.i64.wrap (a1 - 1))) rfl qgt rfl rfl rfl hb2 rfl rfl rfl) ?_;refine qc ?_;refine qb ?_;refine qa [.p] ?_;refine sa rfl rfl ?_;refine qc ?_;refine qo ?_;subst hR;show ResOk _ _ _ _ ∧ MemL _ _;refine ⟨res1 rfl rfl, ?_, trivial⟩;have hss : (l.set i (qzo a0 (IntKind.i64.wrap (a1 - 1)))).set i (qzp a0 (IntKind.i64.wrap (a1 - 1))) = l.set i (qzp a0 (IntKind.i64.wrap (a1 - 1))) := List.set_set ..;exact congrArg (fun z : List S5100 => some (Blk.arr 101 16 (List.map S5100.c z))) hss
end Go.Sim
set_option maxRecDepth 10000
namespace Go.Sim
open Go.Proofs
def qww (a0 : S5042) (a1 a2 : ByteArray) (a3 : Int) (ch : S5100 → S5100 × Int) : Option (S5042 × Int) :=
 (bif decide (ve [qcq a1, qpl a0 a2, a3] ≠ 0) then some (S5042.mk [] [], ve [qcq a1, qpl a0 a2, a3]) else zf (qnu a0) fun r1 => zf (ixO r1.Slots (qdc r1 a2)) fun y => (bif !decide (y.Holder = a1) then some (S5042.mk [] [], 31) else (bif decide ((ch y).2 ≠ 0) then some (S5042.mk [] [], (ch y).2) else some (S5042.mk (List.set r1.Slots (Int.toNat (qdc r1 a2)) (ch y).1) r1.Waiting, 0))))
theorem q9m {g : GL} (a0 : S5042) (a1 a2 : ByteArray) (a3 : Int) (ch : S5100 → S5100 × Int) {R : S5042 × Int} {fv : G} {fi : FuncId} {fk : List G} (hf : FnIs fv fi fk) (Kf : ze Tryz.prog fi)
  (Hf : ∀ (l : List S5100) (i : Nat) (a : S5100), l[i]? = some a → a ∈ a0.Slots → ConB (EG g) fi (.eptr 0 16 i 0 :: fk.map TV.g) [(0, .arr 101 16 (l.map S5100.c))] (G.int (ch a).2) [(0, .arr 101 16 ((l.set i (ch a).1).map S5100.c))])
  (hb : a0.Slots.length ≤ 1000000) (hb1 : a0.Waiting.length ≤ 1000000) (hR : qww a0 a1 a2 a3 ch = some R) :
  ConP (EG g) 86 [G.agg [G.sl 16 (List.map S5100.c a0.Slots), G.sl 14 (List.map S5072.c a0.Waiting)], G.str a1, G.str a2, G.int a3, fv] 101 16 (List.map S5100.c R.1.Slots) (G.sl 14 (List.map S5072.c R.1.Waiting)) (.int .i64 R.2) := by
 unfold qww at hR;refine qtz Tryz.func86 rfl rfl fun w0 M0 => ?_;refine qb ?_;refine qa [.p, .w, .p] ?_;refine su (zi rfl rfl) rfl ?_;refine sw (zc 10 rfl wn rfl rfl) rfl ?_;refine sa rfl rfl ?_;refine qc ?_;refine qb ?_;refine qb ?_;refine zw [.p, .p, .p, .p, .p, .p, .p, .p, .p] (by kernel_rfl) ?_;refine sm rfl rfl ?_;refine su (qf rfl qzq rfl (qzr a1) (qe rfl qj)) rfl ?_;refine su (qp rfl zu rfl rfl rfl) rfl ?_;refine sm rfl rfl ?_;refine su (qf rfl q9n rfl (q9o a0 a2) (qe rfl (qe rfl qj))) rfl ?_;refine sm rfl rfl ?_;refine su (qv rfl Tryz.underlying170 ty37 z37 rfl (qw rfl (qw rfl (qw rfl jo))) rfl (by simp []) (by decide)) rfl ?_;refine su (qf rfl qh9 rfl (qia [qcq a1, qpl a0 a2, a3]) (qe rfl qj)) rfl ?_;refine sa rfl rfl ?_;refine qc ?_;refine qb ?_;refine qa [.p, .p] ?_;refine sm rfl rfl ?_;refine su (zy rfl rfl rfl) rfl ?_;refine qc ?_;refine ql _ rfl (fun h1 => ?_) (fun h1 => ?_)
 ·replace h1 : decide (ve [qcq a1, qpl a0 a2, a3] ≠ 0) = true := h1;replace hR := zk hR h1;refine qb ?_;refine qa [.p, .p, .w, .p] ?_;refine su (jg rfl wn rfl qd1 kx rfl) rfl ?_;refine sm rfl rfl ?_;refine jb rfl rfl (qu (tv := .g (G.agg [G.lit (.slice none 0 0), G.lit (.slice none 0 0)])) rfl zu rfl rfl rfl rfl rfl) ?_;refine sa rfl rfl ?_;refine qc ?_;refine qo ?_;obtain rfl := Option.some.inj hR;exact qkx rfl zu rfl rfl qnq rfl
 ·replace h1 : decide (ve [qcq a1, qpl a0 a2, a3] ≠ 0) = false := h1;replace hR := zl hR h1;refine qn ?_;refine qb ?_;obtain ⟨r1, br1, hR⟩ := qi hR;obtain ⟨y, by_, hR⟩ := qi hR;refine qa [.p, .w, .w, .w] ?_;refine su (qp rfl zu rfl rfl rfl) rfl ?_;refine sw (qhi (f0 := S5100.c) (l := r1.Slots) 29 rfl q3a rfl (qwx a0 hb hb1 br1) (qe rfl qj) rfl) rfl ?_;refine sw (zc 13 rfl wn rfl rfl) rfl ?_;refine jb rfl rfl (qu (tv := .agl [] 29 16 (List.length r1.Slots) [G.sl 14 (List.map S5072.c r1.Waiting)]) rfl zu rfl rfl rfl rfl rfl) ?_;refine qc ?_
  have hmem : y ∈ a0.Slots := by rw [← qf9 br1]; exact List.mem_of_getElem? (zj by_)
  refine qb ?_;refine zw [.p, .r, .r, .p, .r, .p, .p] (by kernel_rfl) ?_;refine su (qy rfl vh rfl) rfl ?_;refine sr (zo rfl qax rfl rfl rfl) rfl ?_;refine sr (qfw rfl zu rfl rfl) rfl ?_;refine sm rfl rfl ?_;refine sr (qpk rfl qzs rfl (qzt r1 a2) (qr8 (f := S5100.c) (l := r1.Slots) rfl rfl rfl rfl)) rfl ?_;refine su (ku rfl Tryz.underlying40 vy rfl rfl (jm by_) (j7 (zj by_))) rfl ?_;refine su (qdu rfl rfl) rfl ?_;refine qc ?_;refine qb ?_;refine qb ?_;refine qa [.p, .p, .p, .r, .p, .p] ?_;refine su (qap rfl rfl) rfl ?_;refine su (qdq rfl rfl) rfl ?_;refine su (xy rfl qjm rfl) rfl ?_;refine sr (qhf rfl ty9 rfl rfl (zj by_) rfl) rfl ?_;refine sm rfl rfl ?_;refine su (qbj rfl rfl rfl) rfl ?_;refine qc ?_;refine ql _ rfl (fun h2 => ?_) (fun h2 => ?_)
  ·replace hR := zk hR h2;refine qb ?_;refine qa [.p, .w, .p] ?_;refine su (jg rfl wn rfl qd1 kx rfl) rfl ?_;refine jb rfl rfl (qu (tv := .g (G.agg [G.lit (.slice none 0 0), G.lit (.slice none 0 0)])) rfl zu rfl rfl rfl rfl rfl) ?_;refine sa rfl rfl ?_;refine qc ?_;refine qo ?_;obtain rfl := Option.some.inj hR;exact qkx rfl zu rfl rfl qnq rfl
  ·replace h2 : (!decide (y.Holder = a1)) = false := h2;replace hR := zl hR h2;refine qn ?_;refine qb ?_;refine qb ?_;refine qa [.p, .p, .w, .p] ?_;refine sm rfl rfl ?_;refine su (qap rfl rfl) rfl ?_;refine sw (qt0 0 29 rfl hf Kf rfl (Hf r1.Slots (Int.toNat (qdc r1 a2)) y (zj by_) hmem) rfl rfl rfl rfl) rfl ?_;refine sa rfl rfl ?_;refine qc ?_;refine qb ?_;refine qa [.p, .p] ?_;refine sm rfl rfl ?_;refine su (zy rfl rfl rfl) rfl ?_;refine qc ?_;refine ql _ rfl (fun h3 => ?_) (fun h3 => ?_)
   ·replace h3 : decide ((ch y).2 ≠ 0) = true := h3;replace hR := zk hR h3;refine qb ?_;refine qa [.p, .p, .w, .p] ?_;refine su (jg rfl wn rfl qd1 kx rfl) rfl ?_;refine sm rfl rfl ?_;refine jb rfl rfl (qu (tv := .g (G.agg [G.lit (.slice none 0 0), G.lit (.slice none 0 0)])) rfl zu rfl rfl rfl rfl rfl) ?_;refine sa rfl rfl ?_;refine qc ?_;refine qo ?_;obtain rfl := Option.some.inj hR;exact qkx rfl zu rfl rfl qnq rfl
   ·replace h3 : decide ((ch y).2 ≠ 0) = false := h3;replace hR := zl hR h3;refine qn ?_;refine qb ?_;refine qa [.r, .w, .p] ?_;refine sr (qfw rfl zu rfl rfl) rfl ?_;refine jb rfl rfl (qu (tv := .agl [] 29 16 (List.length r1.Slots) [G.sl 14 (List.map S5072.c r1.Waiting)]) rfl zu rfl rfl rfl rfl rfl) ?_;refine sa rfl rfl ?_;refine qc ?_;refine qo ?_;obtain rfl := Option.some.inj hR;exact q9i rfl zu rfl rfl (qws _) rfl rfl (by rw [List.length_map, List.length_set])
end Go.Sim
set_option maxRecDepth 10000
namespace Go.Sim
open Go.Proofs
theorem qzu {E : Env} {α : Type} {o : Oper} {mem : Mem} {ev : Operand → TV} {t e : TypeId} {x : Operand} {kk id k i j : Nat} {l : List α} {f : α → List G} {a : α} {cs : List G} (ho : o.op = .load t x) (ht : tyK E.P t = some (kk, true)) (hx : ev x = .eptr id k i j) (hb : qr mem id = some (.arr e k (l.map f)))
  (ha : l[i]? = some a) (hc : ((f a).drop j).take kk = cs) (hl : cs.length = kk) : Eff E o mem ev (.g (.agg cs)) := by
 intro w0 M0 ρ w e' hm he;have h1 := he x (by rw [ho]; simp [Op.operands]);rw [hx] at h1;obtain ⟨ow, h2, h3⟩ := h1
 have hi : (l.map f)[i]? = some (f a) := by rw [List.getElem?_map, ha]; rfl
 have key : ∀ (ds : List G) (p : Nat), (∀ j g, ds[j]? = some g → ∃ v, w.cell? ⟨ow.b, p + j, none⟩ = some v ∧ g.p w (qz M0 ρ) v ∧ v.oneCell' = true) → ∃ vs : List Value, Fits w (qz M0 ρ) ds vs ∧ ∀ j v, vs[j]? = some v → w.cell? ⟨ow.b, p + j, none⟩ = some v := by
  intro ds
  induction ds with
  | nil => intro p _; exact ⟨[], trivial, fun j v h => by simp at h⟩
  | cons d ds ih =>
   intro p h;obtain ⟨v, g1, g2, g3⟩ := h 0 d rfl;obtain ⟨vs, g4, g5⟩ := ih (p + 1) (fun j g hj => by have := h (j + 1) g (by simpa using hj); rwa [show p + (j + 1) = p + 1 + j by omega] at this);refine ⟨v :: vs, ⟨⟨g2, g3⟩, g4⟩, fun j u hj => ?_⟩
   cases j with
   | zero => simp at hj; subst hj; exact g1
   | succ j => have := g5 j u (by simpa using hj); rwa [show p + (j + 1) = p + 1 + j by omega]
 obtain ⟨vs, g1, g2⟩ := key cs (ow.o + i * k + j) (fun q g hq => by
  rw [← hc, List.getElem?_take] at hq
  split at hq
  ·rw [List.getElem?_drop] at hq;have := qm9 hm hb h2 hi hq
   rwa [show ow.o + i * k + (j + q) = ow.o + i * k + j + q by omega] at this
  ·cases hq)
 have : (execOp e' o).run E.P w = .ok (.value (.agg vs.toArray)) w := by simp [execOp, ho, h3, Instr.loadAt, Instr.sureAddr, kh ht (g1.length.trans hl) g2]
 rw [this];exact ⟨Grow.refl w, vs, rfl, g1⟩
theorem qzv (a0 : List S5100) (a1 a2 : Int) (h0 : 0 ≤ a1) (h1 : a1 ≤ a2) (h2 : a2 ≤ (a0.length : Int)) : (qkv a0 a1 a2).2 ≤ (qkv a0 a1 a2).1.length := by
 unfold qkv;rw [cond_eq_ite]
 split
 ·exact Nat.le_refl _
 ·simp only [List.length_take, List.length_append, List.length_drop]
  omega
def qq3 (l : List S5100) (i : Int) : List S5100 := List.take (qkv l i (i + 1)).2 (qkv l i (i + 1)).1
def q3b (a0 : S5042) (a1 a2 : ByteArray) (a3 : Int) : Option (S5042 × Int) :=
 zf (qww a0 a1 a2 (qky a3) (fun a => qt1 a a3)) fun r1 => (bif decide (r1.2 ≠ 0) then some (S5042.mk [] [], r1.2) else zf (ixO r1.1.Slots (qdc r1.1 a2)) fun y => (bif decide ((qff y.Request.Period).2 ≠ 0) || decide ((qff y.Request.Period).1 = 0) then some (S5042.mk (qq3 r1.1.Slots (qdc r1.1 a2)) r1.1.Waiting, 0) else some (r1.1, 0)))
theorem q3c {a0 : S5042} {a1 a2 : ByteArray} {a3 : Int} {ch : S5100 → S5100 × Int} {R : S5042 × Int} (h : qww a0 a1 a2 a3 ch = some R) : R.1.Slots.length ≤ a0.Slots.length := by
 unfold qww at h;rw [cond_eq_ite] at h
 split at h
 ·cases h; exact Nat.zero_le _
 ·obtain ⟨r1, h1, h2⟩ := qi h;obtain ⟨y, _, h3⟩ := qi h2;have e := qf9 h1;rw [← e];rw [cond_eq_ite] at h3
  split at h3
  ·cases h3; exact Nat.zero_le _
  ·rw [cond_eq_ite] at h3
   split at h3
   ·cases h3; exact Nat.zero_le _
   ·cases h3; rw [List.length_set]; exact Nat.le_refl _
theorem q9p {g : GL} (a0 : S5042) (a1 a2 : ByteArray) (a3 : Int) {R : S5042 × Int} (hb : a0.Slots.length ≤ 1000000) (hb1 : a0.Waiting.length ≤ 1000000) (hl : ∀ a ∈ a0.Slots, a.Leases.length ≤ 1000000) (hR : q3b a0 a1 a2 a3 = some R) :
  Con (EG g) 38 [G.agg [G.sl 16 (List.map S5100.c a0.Slots), G.sl 14 (List.map S5072.c a0.Waiting)], G.str a1, G.str a2, G.int a3] (G.tup [G.agg [G.sl 16 (List.map S5100.c R.1.Slots), G.sl 14 (List.map S5072.c R.1.Waiting)], G.int R.2]) := by
 unfold q3b at hR;refine qm Tryz.func38 rfl rfl fun w0 M0 => ?_;refine qb ?_;refine qa [.p, .p, .w, .p] ?_;refine su (zi rfl rfl) rfl ?_;refine su (zi rfl rfl) rfl ?_;refine sw (zc 8 rfl wn rfl rfl) rfl ?_;refine sa rfl rfl ?_;refine qc ?_;refine qb ?_;obtain ⟨r1, br1, hR⟩ := qi hR;have hln := q3c br1;refine zw [.p, .p, .p, .p, .p, .p, .wq 22, .p, .p, .p, .wq 10, .wq 10, .p] (by kernel_rfl) ?_;refine su (qp rfl zu rfl rfl rfl) rfl ?_;refine sm rfl rfl ?_;refine sm rfl rfl ?_;refine su (qg rfl ty3 rfl) rfl ?_;refine su (qf rfl q3d rfl (q3e a3) (qe rfl qj)) rfl ?_;refine su (qir rfl qj (qe (y := G.ref [G.int a3]) rfl qj)) rfl ?_;refine q5d (i := 22) rfl rfl (fun m_ hm_ => qwt (f0 := S5100.c) (l := r1.1.Slots) 22 rfl q9q rfl (q9m a0 a1 a2 (qky a3) (fun a => qt1 a a3) qkl q9r (fun l i a h1 h2 => q9k a3 h1 (hl a h2)) hb hb1 br1) (qe rfl (qe rfl (qe rfl (qe rfl (qe rfl qj))))) (hm_.trans rfl)) rfl ?_;refine su (qwu rfl rfl) rfl ?_;refine su (qnr rfl rfl) rfl ?_;refine su (qns rfl rfl) rfl ?_;refine q5d (i := 10) rfl rfl (fun m_ hm_ => zc 10 rfl wn rfl (hm_.trans rfl)) rfl ?_;refine q5e (i := 10) rfl rfl (fun m_ hm_ => qu (tv := .agl [] 22 16 (List.length r1.1.Slots) [G.sl 14 (List.map S5072.c r1.1.Waiting)]) rfl zu rfl rfl (hm_.trans rfl) rfl rfl) ?_;refine sa rfl rfl ?_;refine qc ?_;refine qb ?_;refine qb ?_;refine qa [.p, .p] ?_;refine sm rfl rfl ?_;refine su (zy rfl rfl rfl) rfl ?_;refine qc ?_;refine ql _ rfl (fun h1 => ?_) (fun h1 => ?_)
 ·replace h1 : decide (r1.2 ≠ 0) = true := h1;replace hR := zk hR h1;refine qb ?_;refine qa [.p, .p, .w, .p] ?_;refine su (qcr (x := G.agg [G.lit (.slice none 0 0), G.lit (.slice none 0 0)]) (y := G.agg [G.sl 16 (List.map S5100.c []), G.sl 14 (List.map S5072.c [])]) (jg rfl wn rfl qd1 kx rfl) (qc4 ⟨xk 16, xk 14, trivial⟩)) rfl ?_;refine sm rfl rfl ?_;refine jb rfl rfl (qu (tv := .g (G.agg [G.sl 16 (List.map S5100.c []), G.sl 14 (List.map S5072.c [])])) rfl zu rfl rfl rfl rfl rfl) ?_;refine sa rfl rfl ?_;refine qc ?_;refine qo ?_;obtain rfl := Option.some.inj hR;exact resN rfl ⟨xo rfl rfl zu rfl rfl, rv_g rfl, trivial⟩ (by simp)
 ·replace h1 : decide (r1.2 ≠ 0) = false := h1;replace hR := zl hR h1;refine qn ?_;refine qb ?_;obtain ⟨y, by_, hR⟩ := qi hR;have hy0 := jm by_;have hy1 := j7 (zj by_);refine qa [.r, .p, .r, .p] ?_;refine sr (qfw rfl zu rfl rfl) rfl ?_;refine sm rfl rfl ?_;refine sr (qpk rfl qzs rfl (qzt r1.1 a2) (qr8 (f := S5100.c) (l := r1.1.Slots) rfl rfl rfl rfl)) rfl ?_;refine sa rfl rfl ?_;refine qc ?_;refine qb ?_;refine qb ?_;refine qa [.p, .r, .p, .p, .p, .p, .r, .p, .p, .p, .p, .p, .p] ?_;refine su (qy rfl vh rfl) rfl ?_;refine sr (zo rfl qax rfl rfl rfl) rfl ?_;refine sm rfl rfl ?_;refine su (ku rfl Tryz.underlying40 vy rfl rfl hy0 hy1) rfl ?_;refine su (xy rfl qca rfl) rfl ?_;refine su (xy rfl wt rfl) rfl ?_;refine sr (qzu rfl ty46 rfl rfl (zj by_) rfl rfl) rfl ?_;refine su (qf rfl q6c rfl (q6d y.Request.Period) (qe rfl qj)) rfl ?_;refine sm rfl rfl ?_;refine su (qt rfl rfl rfl) rfl ?_;refine su (qt rfl rfl rfl) rfl ?_;refine sa rfl rfl ?_;refine sa rfl rfl ?_;refine qc ?_;refine qb ?_;refine qa [.p, .p, .p, .p, .p, .p] ?_;refine sm rfl rfl ?_;refine su (zy rfl rfl rfl) rfl ?_;refine sm rfl rfl ?_;refine sg rfl rfl (fun h => qk rfl rfl) rfl ?_;refine sg rfl rfl (fun h => jr rfl (gd h rfl) rfl) rfl ?_;refine su (jl rfl rfl rfl rfl) rfl ?_;refine qc ?_;refine ql _ rfl (fun h2 => ?_) (fun h2 => ?_)
  ·replace h2 : (decide ((qff y.Request.Period).2 ≠ 0) || decide ((qff y.Request.Period).1 = 0)) = true := h2;replace hR := zk hR h2;refine qa [.p, .r, .p, .p, .p, .k, .p, .w] ?_;refine su (qy rfl vh rfl) rfl ?_;refine sr (zo rfl qax rfl rfl rfl) rfl ?_;refine sm rfl rfl ?_;refine sm rfl rfl ?_;refine su (zn rfl rfl rfl iE) rfl ?_;refine st_k rfl rfl (qa3 10 0 rfl (qv0 (f0 := S5100.c) (l := r1.1.Slots) (l' := (qkv r1.1.Slots (qdc r1.1 a2) (qdc r1.1 a2 + 1)).1) (n := (qkv r1.1.Slots (qdc r1.1 a2) (qdc r1.1 a2 + 1)).2) 22 rfl q9s rfl (q9h r1.1.Slots (qdc r1.1 a2) (qdc r1.1 a2 + 1) hy0 (by omega) (by omega) (by omega)) (z7 rfl rfl (z7 rfl rfl (z7 rfl rfl qcx))) rfl (qo5 rfl) (qzv _ _ _ hy0 (by omega) (by omega)))) rfl ?_;refine su (qy rfl vh rfl) rfl ?_;refine jb rfl rfl (qu (tv := .g (G.sl 16 (List.map S5100.c (qq3 r1.1.Slots (qdc r1.1 a2))))) rfl qax rfl rfl rfl rfl rfl) ?_;refine qc ?_;refine qb ?_;refine qa [.r, .w, .p] ?_;refine sr (zm rfl zu rfl rfl rfl rfl) rfl ?_;refine jb rfl rfl (qu (tv := .g (G.agg [G.sl 16 (List.map S5100.c (qq3 r1.1.Slots (qdc r1.1 a2))), G.sl 14 (List.map S5072.c r1.1.Waiting)])) rfl zu rfl rfl rfl rfl rfl) ?_;refine sa rfl rfl ?_;refine qc ?_;refine qo ?_;obtain rfl := Option.some.inj hR;exact resN rfl ⟨xo rfl rfl zu rfl rfl, rv_g rfl, trivial⟩ (by simp)
  ·replace h2 : (decide ((qff y.Request.Period).2 ≠ 0) || decide ((qff y.Request.Period).1 = 0)) = false := h2;replace hR := zl hR h2;refine qn ?_;refine qb ?_;refine qa2 (l := [(8, .ptr 8 0), (10, .ptr 10 0)]) (m := [(8, .box [.g (G.lit (.slice none 0 0)), .g (G.lit (.slice none 0 0))]), (10, .box [.g (G.sl 16 (List.map S5100.c r1.1.Slots)), .g (G.sl 14 (List.map S5072.c r1.1.Waiting))])]) 10 0 22 16 _ rfl rfl rfl ((List.length_map ..).trans rfl) ⟨rfl, rfl, trivial⟩ ⟨rfl, rfl, trivial⟩ rfl rfl ?_;refine qa [.r, .w, .p] ?_;refine sr (zm rfl zu rfl rfl rfl rfl) rfl ?_;refine jb rfl rfl (qu (tv := .g (G.agg [G.sl 16 (List.map S5100.c r1.1.Slots), G.sl 14 (List.map S5072.c r1.1.Waiting)])) rfl zu rfl rfl rfl rfl rfl) ?_;refine sa rfl rfl ?_;refine qc ?_;refine qo ?_;obtain rfl := Option.some.inj hR;exact resN rfl ⟨xo rfl rfl zu rfl rfl, rv_g rfl, trivial⟩ (by simp)
end Go.Sim
set_option maxRecDepth 10000
namespace Go.Sim
open Go.Proofs
def qzw (a0 : S5042) (a1 : ByteArray) (a2 : ByteArray) (a3 : Int) : Option (S5042 × Int) :=
 zf (qmt a0) fun r1 => (bif decide (r1 ≠ 0) then some ((S5042.mk [] []), r1) else zf (q3b a0 a1 a2 a3) fun r2 => some (r2.1, r2.2))
theorem q9t {g : GL} (a0 : S5042) (a1 : ByteArray) (a2 : ByteArray) (a3 : Int) {R : S5042 × Int}  (hb : a0.Slots.length ≤ 1000000) (hb1 : a0.Waiting.length ≤ 1000000) (hl : ∀ a ∈ a0.Slots, a.Leases.length ≤ 1000000) (hR : qzw a0 a1 a2 a3 = some R) : Con (EG g) 9 [G.agg [G.sl 16 (List.map S5100.c a0.Slots), G.sl 14 (List.map S5072.c a0.Waiting)], G.str a1, G.str a2, G.int a3] (G.tup [G.agg [G.sl 16 (List.map S5100.c R.1.Slots), G.sl 14 (List.map S5072.c R.1.Waiting)], G.int R.2]) := by
 unfold qzw at hR;refine qm Tryz.func9 rfl rfl fun w0 M0 => ?_;refine qb ?_;refine qa [.p, .w, .p] ?_;refine su (zi rfl rfl) rfl ?_;refine sw (zc 8 rfl wn rfl rfl) rfl ?_;refine sa rfl rfl ?_;refine qc ?_;refine qb ?_;refine qb ?_;obtain ⟨r1, br1, hR⟩ := qi hR;refine qa [.p, .p, .p] ?_;refine su (qp rfl zu rfl rfl rfl) rfl ?_;refine su (qf rfl qzx rfl (qzy a0 br1) (qe rfl qj)) rfl ?_;refine sa rfl rfl ?_;refine qc ?_;refine qb ?_;refine qa [.p, .p] ?_;refine sm rfl rfl ?_;refine su (zy rfl rfl rfl) rfl ?_;refine qc ?_;refine ql _ rfl (fun h1 => ?_) (fun h1 => ?_)
 ·replace h1 : (decide (r1 ≠ 0)) = true := h1;replace hR := zk hR h1;(try simp only [bB] at h1);refine qb ?_;refine qa [.p, .p, .w, .p] ?_;refine su (jg rfl wn rfl qd1 kx rfl) rfl ?_;refine sm rfl rfl ?_;refine jb rfl rfl (qu (tv := .g (G.agg [G.lit (.slice none 0 0), G.lit (.slice none 0 0)])) rfl zu rfl rfl rfl rfl rfl) ?_;refine sa rfl rfl ?_;refine qc ?_;refine qo ?_;obtain rfl := Option.some.inj hR;exact resN rfl ⟨qv2 (xo rfl rfl zu rfl rfl) (qc4 ⟨xk _, xk _, trivial⟩), rv_g rfl, trivial⟩ (by simp)
 ·replace h1 : (decide (r1 ≠ 0)) = false := h1;replace hR := zl hR h1;(try simp only [bB] at h1);refine qn ?_;refine qb ?_;obtain ⟨r2, br2, hR⟩ := qi hR;refine qa [.p, .p, .p, .p, .p, .p, .p, .w, .p] ?_;refine su (qp rfl zu rfl rfl rfl) rfl ?_;refine sm rfl rfl ?_;refine sm rfl rfl ?_;refine sm rfl rfl ?_;refine su (qf rfl q9u rfl (q9p a0 a1 a2 a3 hb hb1 hl br2) (qe rfl (qe rfl (qe rfl (qe rfl qj))))) rfl ?_;refine su (qt rfl rfl rfl) rfl ?_;refine su (qt rfl rfl rfl) rfl ?_;refine jb rfl rfl (qu (tv := .g (G.agg [G.sl 16 (List.map S5100.c r2.1.Slots), G.sl 14 (List.map S5072.c r2.1.Waiting)])) rfl zu rfl rfl rfl rfl rfl) ?_;refine sa rfl rfl ?_;refine qc ?_;refine qo ?_;obtain rfl := Option.some.inj hR;exact resN rfl ⟨xo rfl rfl zu rfl rfl, rv_g rfl, trivial⟩ (by simp)
end Go.Sim
set_option maxRecDepth 10000
namespace Go.Sim
open Go.Proofs
def qlc (a0 : S5042) : Option ((List S1079) × Int) :=
 zf (qmt a0) fun r1 => (bif decide (r1 ≠ 0) then some ([], r1) else zf (qc3 a0 (-1)) fun r2 => some (r2, 0))
theorem qyt {g : GL} (a0 : S5042) {R : (List S1079) × Int}  (hb : a0.Slots.length ≤ 1000000000000000) (hR : qlc a0 = some R) : Con (EG g) 11 [G.agg [G.sl 16 (List.map S5100.c a0.Slots), G.sl 14 (List.map S5072.c a0.Waiting)]] (G.tup [G.sl 7 (List.map S1079.c R.1), G.int R.2]) := by
 unfold qlc at hR;refine qm Tryz.func11 rfl rfl fun w0 M0 => ?_;refine qb ?_;refine qa [.p, .p, .p] ?_;refine su (zi rfl rfl) rfl ?_;refine sa rfl rfl ?_;refine sa rfl rfl ?_;refine qc ?_;refine qb ?_;refine qb ?_;obtain ⟨r1, br1, hR⟩ := qi hR;refine qa [.p, .p, .p] ?_;refine su (qp rfl zu rfl rfl rfl) rfl ?_;refine su (qf rfl qzx rfl (qzy a0 br1) (qe rfl qj)) rfl ?_;refine sa rfl rfl ?_;refine qc ?_;refine qb ?_;refine qa [.p, .p] ?_;refine sm rfl rfl ?_;refine su (zy rfl rfl rfl) rfl ?_;refine qc ?_;refine ql _ rfl (fun h1 => ?_) (fun h1 => ?_)
 ·replace h1 : (decide (r1 ≠ 0)) = true := h1;replace hR := zk hR h1;(try simp only [bB] at h1);refine qb ?_;refine qa [.p, .p, .p] ?_;refine sm rfl rfl ?_;refine sa rfl rfl ?_;refine sa rfl rfl ?_;refine qc ?_;refine qo ?_;obtain rfl := Option.some.inj hR;exact resN rfl ⟨qqo rfl (qip _), rv_g rfl, trivial⟩ (by simp)
 ·replace h1 : (decide (r1 ≠ 0)) = false := h1;replace hR := zl hR h1;(try simp only [bB] at h1);refine qn ?_;refine qb ?_;obtain ⟨r2, br2, hR⟩ := qi hR;refine qa [.p, .p, .p, .p] ?_;refine su (qp rfl zu rfl rfl rfl) rfl ?_;refine su (qf rfl q3f rfl (q6e a0 (-1) rfl (by omega) br2) (qe rfl (qe rfl qj))) rfl ?_;refine sa rfl rfl ?_;refine sa rfl rfl ?_;refine qc ?_;refine qo ?_;obtain rfl := Option.some.inj hR;exact resN rfl ⟨rv_g rfl, rv_g rfl, trivial⟩ (by simp)
end Go.Sim
set_option maxRecDepth 10000
namespace Go.Sim
def cF (k : Int) (I : List (Int × Int)) : Int := ((I.countP fun q => decide (q.1 = k) : Nat) : Int)
def cT (k : Int) (I : List (Int × Int)) : Int := ((I.countP fun q => decide (q.2 = k) : Nat) : Int)
structure Ed (e : List Int) (I : List (Int × Int)) : Prop where
 len : e.length = 1441
 at_ : ∀ k : Nat, k < 1441 → e[k]? = some (cF k I - cT k I)
 rng : ∀ q ∈ I, 0 ≤ q.1 ∧ q.1 < q.2 ∧ q.2 ≤ 1440
theorem q6f : Ed (List.replicate 1441 0) [] := ⟨by rw [List.length_replicate], fun k hk => by rw [List.getElem?_replicate, if_pos hk]; rfl, fun q h => by cases h⟩
theorem q3g (k : Int) (I : List (Int × Int)) : 0 ≤ cF k I ∧ cF k I ≤ I.length := ⟨Int.natCast_nonneg _, by unfold cF; exact Int.ofNat_le.2 List.countP_le_length⟩
theorem q3h (k : Int) (I : List (Int × Int)) : 0 ≤ cT k I ∧ cT k I ≤ I.length := ⟨Int.natCast_nonneg _, by unfold cT; exact Int.ofNat_le.2 List.countP_le_length⟩
theorem q3i (k : Int) (I : List (Int × Int)) (f t : Int) : cF k (I ++ [(f, t)]) = cF k I + (if f = k then 1 else 0) := by
 unfold cF; rw [List.countP_append]; by_cases h : f = k <;> simp [h]
theorem q3j (k : Int) (I : List (Int × Int)) (f t : Int) : cT k (I ++ [(f, t)]) = cT k I + (if t = k then 1 else 0) := by
 unfold cT; rw [List.countP_append]; by_cases h : t = k <;> simp [h]
theorem qwy {e : List Int} {I : List (Int × Int)} (h : Ed e I) {f : Int} (h0 : 0 ≤ f) (h1 : f ≤ 1440) : ixO e f = some (cF f I - cT f I) := by
 unfold ixO;rw [decide_eq_true h0, cond_true, h.at_ f.toNat (by omega), Int.toNat_of_nonneg h0]
theorem q3k {e : List Int} {I : List (Int × Int)} (h : Ed e I) (hI : I.length ≤ 1000000000000) {f t : Int} (h0 : 0 ≤ f) (h1 : f < t) (h2 : t ≤ 1440) :
  ∃ y, ixO e f = some y ∧ ∃ y', ixO (List.set e f.toNat (IntKind.i64.wrap (y + 1))) t = some y' ∧ Ed (List.set (List.set e f.toNat (IntKind.i64.wrap (y + 1))) t.toNat (IntKind.i64.wrap (y' - 1))) (I ++ [(f, t)]) := by
 have a1 := q3g f I; have a2 := q3h f I; have a3 := q3g t I; have a4 := q3h t I
 have hI' : (I.length : Int) ≤ 1000000000000 := by omega
 refine ⟨_, qwy h h0 (by omega), cF t I - cT t I, ?_, ?_⟩
 ·have := qwy h (show 0 ≤ t by omega) h2;unfold ixO at this ⊢;rw [decide_eq_true (show 0 ≤ t by omega), cond_true] at this ⊢;rw [List.getElem?_set_ne (by omega)]; exact this
 ·rw [wrap_i64 (by unfold I64; omega), wrap_i64 (by unfold I64; omega)];refine ⟨by rw [List.length_set, List.length_set]; exact h.len, fun k hk => ?_, fun q hq => ?_⟩
  ·have h3 := h.at_ k hk;rw [q3i, q3j];rw [List.getElem?_set, List.getElem?_set, List.length_set, h.len]
   by_cases c1 : t.toNat = k
   ·have e1 : t = (k : Int) := by omega
    rw [if_pos c1, if_pos (by omega), if_pos e1, if_neg (by omega), e1];exact congrArg some (by omega)
   ·rw [if_neg c1]
    have e1 : ¬ t = (k : Int) := by omega
    rw [if_neg e1]
    by_cases c2 : f.toNat = k
    ·have e2 : f = (k : Int) := by omega
     rw [if_pos c2, if_pos (by omega), if_pos e2, e2];exact congrArg some (by omega)
    ·rw [if_neg c2, if_neg (by omega), h3];exact congrArg some (by omega)
  ·rcases List.mem_append.1 hq with hq | hq
   ·exact h.rng q hq
   ·simp only [List.mem_singleton] at hq; subst hq; exact ⟨h0, h1, h2⟩
def aF (i : Int) (I : List (Int × Int)) : Int := ((I.countP fun q => decide (q.1 < i) : Nat) : Int)
def aT (i : Int) (I : List (Int × Int)) : Int := ((I.countP fun q => decide (q.2 < i) : Nat) : Int)
def inI (i : Int) (I : List (Int × Int)) : Bool := I.any fun q => decide (q.1 ≤ i) && decide (i < q.2)
theorem qwz (i : Int) : ∀ I : List (Int × Int), aF (i + 1) I = aF i I + cF i I
 | [] => rfl
 | q :: I => by
  have ih := qwz i I;unfold aF cF at *;rw [List.countP_cons, List.countP_cons, List.countP_cons]
  by_cases h1 : q.1 < i
  ·rw [if_pos (by simp; omega), if_pos (by simpa using h1), if_neg (by simp; omega)]; omega
  ·by_cases h2 : q.1 = i
   ·rw [if_pos (by simp; omega), if_neg (by simpa using h1), if_pos (by simpa using h2)]; omega
   ·rw [if_neg (by simp; omega), if_neg (by simpa using h1), if_neg (by simpa using h2)]; omega
theorem qw0 (i : Int) : ∀ I : List (Int × Int), aT (i + 1) I = aT i I + cT i I
 | [] => rfl
 | q :: I => by
  have ih := qw0 i I;unfold aT cT at *;rw [List.countP_cons, List.countP_cons, List.countP_cons]
  by_cases h1 : q.2 < i
  ·rw [if_pos (by simp; omega), if_pos (by simpa using h1), if_neg (by simp; omega)]; omega
  ·by_cases h2 : q.2 = i
   ·rw [if_pos (by simp; omega), if_neg (by simpa using h1), if_pos (by simpa using h2)]; omega
   ·rw [if_neg (by simp; omega), if_neg (by simpa using h1), if_neg (by simpa using h2)]; omega
theorem qw1 (i : Int) : ∀ {I : List (Int × Int)}, (∀ q ∈ I, q.1 < q.2) → 0 ≤ aF (i + 1) I - aT (i + 1) I ∧ (decide (0 < aF (i + 1) I - aT (i + 1) I) = inI i I)
 | [], _ => ⟨Int.le_refl _, rfl⟩
 | q :: I, h => by
  obtain ⟨ih1, ih2⟩ := qw1 i (I := I) fun x hx => h x (List.mem_cons_of_mem _ hx);have hq := h q List.mem_cons_self;unfold aF aT inI at *;rw [List.countP_cons, List.countP_cons, List.any_cons, ← ih2]
  by_cases h1 : q.1 ≤ i
  ·by_cases h2 : i < q.2
   ·rw [if_pos (by simp; omega), if_neg (by simp; omega), decide_eq_true h1, decide_eq_true h2];exact ⟨by omega, by rw [decide_eq_true (by omega)]; rfl⟩
   ·rw [if_pos (by simp; omega), if_pos (by simp; omega), decide_eq_true h1, decide_eq_false h2];refine ⟨by omega, ?_⟩;rw [Bool.and_false, Bool.false_or];exact decide_eq_decide.2 (by omega)
  ·rw [if_neg (by simp; omega), if_neg (by simp; omega), decide_eq_false h1];refine ⟨by omega, ?_⟩;rw [Bool.false_and, Bool.false_or];exact decide_eq_decide.2 (by omega)
theorem q9v (i : Int) (I : List (Int × Int)) : 0 ≤ aF i I ∧ aF i I ≤ I.length := ⟨Int.natCast_nonneg _, by unfold aF; exact Int.ofNat_le.2 List.countP_le_length⟩
theorem q9w (i : Int) (I : List (Int × Int)) : 0 ≤ aT i I ∧ aT i I ≤ I.length := ⟨Int.natCast_nonneg _, by unfold aT; exact Int.ofNat_le.2 List.countP_le_length⟩
theorem q06 {e : List Int} {I : List (Int × Int)} (h : Ed e I) (hI : I.length ≤ 1000000000000) : ∀ (k i : Nat) (F : List Bool), i + k = 1440 → F.length = 1440 → (∀ m : Nat, m < i → F[m]? = some (inI m I)) →
  ∃ F', qaq e k (aF i I - aT i I) i F = some F' ∧ F'.length = 1440 ∧ ∀ m : Nat, m < 1440 → F'[m]? = some (inI m I)
 | 0, i, F, h0, h1, h2 => ⟨F, rfl, h1, fun m hm => h2 m (by omega)⟩
 | k + 1, i, F, h0, h1, h2 => by
  rw [qaq, qwy h (by omega) (by omega)]
  have hF : ixO F (i : Int) = some F[i] := by
   unfold ixO; rw [decide_eq_true (by omega), cond_true, Int.toNat_natCast, List.getElem?_eq_getElem (by omega)]
  rw [hF];simp only [zf];have a1 := q9v (i : Int) I; have a2 := q9w (i : Int) I; have a3 := q3g (i : Int) I; have a4 := q3h (i : Int) I
  have hI' : (I.length : Int) ≤ 1000000000000 := by omega
  rw [wrap_i64 (by unfold I64; omega)];have e1 := qwz (i : Int) I;have e2 := qw0 (i : Int) I
  have e3 : aF (i : Int) I - aT (i : Int) I + (cF (i : Int) I - cT (i : Int) I) = aF ((i : Int) + 1) I - aT ((i : Int) + 1) I := by omega
  rw [e3, (qw1 (i : Int) fun q hq => (h.rng q hq).2.1).2]
  have := q06 h hI k (i + 1) (F.set i (inI i I)) (by omega) (by rw [List.length_set]; exact h1) (fun m hm => by
   rw [List.getElem?_set]
   by_cases c : i = m
   ·subst c; rw [if_pos rfl, if_pos (by omega)]
   ·rw [if_neg c]; exact h2 m (by omega))
  rw [Int.toNat_natCast];exact this
def frm (d b : Int) : Int := max 0 (b - 1440 * d)
def til (l : S2062) (d b : Int) : Int := min 1440 (b + l.Length - 1440 * d)
def ivB (ms : List S1079) (l : S2062) (d b : Int) : List (Int × Int) := if cntI (ofL l ms) b l.Length < l.Most then [] else if frm d b < til l d b then [(frm d b, til l d b)] else []
def ivX (ms : List S1079) (l : S2062) (d x : Int) : List (Int × Int) := (begL l x).flatMap (ivB ms l d)
def ivD (ms : List S1079) (l : S2062) (d : Int) : List (Int × Int) := ivX ms l d (d - 1) ++ ivX ms l d d
def ivL (ms : List S1079) (a2 : S115) (l : S2062) : List (Int × Int) := if qbm l a2.Kind a2.Terminal = true then (s69 a2.Period).1.flatMap (ivD ms l) else []
def ivs (ms : List S1079) (a2 : S115) (ls : List S2062) : List (Int × Int) := ls.flatMap (ivL ms a2)
theorem q6g {ms : List S1079} {l : S2062} (hl : LimOk l) {d b : Int} (hd0 : 0 ≤ d) (hd1 : d ≤ 1000000) (hb0 : 1440 * (d - 1) ≤ b) (hb1 : b ≤ 1440 * d + 1439) {e : List Int} {I : List (Int × Int)} (h : Ed e I) (hI : I.length ≤ 1000000000000)
  (rec5 : Int → Int → Int → List Int → Option (List Bool)) (x43 x44 x45 : Int) : ∃ e', qbb rec5 l d e b (cntI (ofL l ms) b l.Length) x43 x44 x45 = rec5 x43 x44 x45 e' ∧ Ed e' (I ++ ivB ms l d b) := by
 have h0 := hl.l0; have h1 := hl.l1;unfold qbb ivB frm til;rw [wrap_i64 (n := 1440 * d) (by unfold I64; omega), wrap_i64 (n := b - 1440 * d) (by unfold I64; omega), wrap_i64 (n := b + l.Length) (by unfold I64; omega), wrap_i64 (n := b + l.Length - 1440 * d) (by unfold I64; omega)];rw [cond_eq_ite]
 by_cases c1 : cntI (ofL l ms) b l.Length < l.Most
 ·rw [if_pos (decide_eq_true c1), if_pos c1]; exact ⟨e, rfl, by rwa [List.append_nil]⟩
 ·rw [if_neg (by simpa using c1), if_neg c1, cond_eq_ite]
  by_cases c2 : max 0 (b - 1440 * d) < min 1440 (b + l.Length - 1440 * d)
  ·rw [if_pos (decide_eq_true c2), if_pos c2];obtain ⟨y, q1, y', q2, q3⟩ := q3k h hI (Int.le_max_left 0 (b - 1440 * d)) c2 (Int.min_le_left 1440 (b + l.Length - 1440 * d));rw [q1]; simp only [zf];rw [q2];exact ⟨_, rfl, q3⟩
  ·rw [if_neg (by simpa using c2), if_neg c2]; exact ⟨e, rfl, by rwa [List.append_nil]⟩
structure Cch (ms : List S1079) (l : S2062) (x35 x36 x37 : Int) : Prop where
 z : x35 = 0
 c : x36 = -1 ∨ x37 = cntI (ofL l ms) x36 l.Length
theorem qw2 (ms : List S1079) (l : S2062) (d b : Int) : (ivB ms l d b).length ≤ 1 := by
 unfold ivB
 split
 ·simp
 ·split <;> simp
theorem q07 {ms : List S1079} {l : S2062} (hl : LimOk l) {d : Int} (hd0 : 0 ≤ d) (hd1 : d ≤ 1000000) (rec4 : Int → Int → Int → Int → List Int → Option (List Bool)) (x26 : Int) : ∀ (t : List Int), (∀ b ∈ t, 0 ≤ b ∧ 1440 * (d - 1) ≤ b ∧ b ≤ 1440 * d + 1439) →
  ∀ (x35 x36 x37 : Int) (e : List Int) (I : List (Int × Int)), Cch ms l x35 x36 x37 → Ed e I → I.length + t.length ≤ 1000000000000 →
  ∃ y35 y36 y37 e', vt rec4 ms l d x26 t x35 x36 x37 e = rec4 (x26 + 1) y35 y36 y37 e' ∧ Cch ms l y35 y36 y37 ∧ Ed e' (I ++ t.flatMap (ivB ms l d))
 | [], _, x35, x36, x37, e, I, hc, he, _ => ⟨_, _, _, _, rfl, hc, by simpa using he⟩
 | b :: t, ht, x35, x36, x37, e, I, hc, he, hI => by
  obtain ⟨hb, hb0, hb1⟩ := ht b List.mem_cons_self;rw [List.length_cons] at hI;have hlen := qw2 ms l d b
  have key : ∀ (q35 q36 q37 : Int), Cch ms l q35 q36 q37 → ∃ y35 y36 y37 e', qbb (fun z0_ z1_ z2_ z3_ => vt rec4 ms l d x26 t z0_ z1_ z2_ z3_) l d e b (cntI (ofL l ms) b l.Length) q35 q36 q37 = rec4 (x26 + 1) y35 y36 y37 e' ∧ Cch ms l y35 y36 y37 ∧ Ed e' (I ++ (b :: t).flatMap (ivB ms l d)) := by
   intro q35 q36 q37 hq;obtain ⟨e', g1, g2⟩ := q6g (ms := ms) hl hd0 hd1 hb0 hb1 he (by omega) (fun z0_ z1_ z2_ z3_ => vt rec4 ms l d x26 t z0_ z1_ z2_ z3_) q35 q36 q37;obtain ⟨y35, y36, y37, e2, g3, g4, g5⟩ := q07 hl hd0 hd1 rec4 x26 t (fun b hb => ht b (List.mem_cons_of_mem _ hb)) q35 q36 q37 e' (I ++ ivB ms l d b) hq g2 (by rw [List.length_append]; omega);exact ⟨y35, y36, y37, e2, g1.trans g3, g4, by rw [List.flatMap_cons, ← List.append_assoc]; exact g5⟩
  rw [vt, cond_eq_ite]
  by_cases c : x36 = b
  ·subst c
   have e1 : qhc [decide (x35 = 0), decide (x36 = x36), decide (x37 = x37)] = true := by rw [hc.z]; simp [qhc]
   rw [e1];have e2 : x37 = cntI (ofL l ms) x36 l.Length := hc.c.resolve_left (by omega);have := key x35 x36 x37 hc;rw [if_neg (by simp)];rw [← e2] at this;exact this
  ·have e1 : qhc [decide (x35 = 0), decide (x36 = b), decide (x37 = x37)] = false := by simp [qhc, c]
   rw [e1, if_pos (by simp)];exact key 0 b _ ⟨rfl, .inr rfl⟩
end Go.Sim
set_option maxRecDepth 10000
namespace Go.Sim
theorem qr9 {l : S2062} (hl : LimOk l) (d : Int) : (begL l d).length ≤ 1440 := by
 unfold begL
 cases ((decide (d < l.Period.fFrom)) || (decide (l.Period.fTo < d))) || (!(qpi l d)) with
 | true => exact Nat.zero_le _
 | false =>
  rw [cond_false, List.length_map, List.length_range];have h1 := q6h hl; have h2 := (q3l hl).2.1; have h3 := hl.t0; have h4 := hl.t1; have h5 := hl.s0;have : l.fTo / l.Step ≤ l.fTo := Int.ediv_le_self _ (by omega)
  omega
theorem qkz {α β : Type} {f : α → List β} {n : Nat} : ∀ {l : List α}, (∀ x ∈ l, (f x).length ≤ n) → (l.flatMap f).length ≤ l.length * n
 | [], _ => by simp
 | x :: l, h => by
  have h1 := h x List.mem_cons_self;have h2 := qkz (l := l) fun y hy => h y (List.mem_cons_of_mem _ hy);rw [List.flatMap_cons, List.length_append, List.length_cons, Nat.succ_mul]; omega
theorem qq4 {ms : List S1079} {l : S2062} (hl : LimOk l) (d x : Int) : (ivX ms l d x).length ≤ 1440 := by
 have h1 := qkz (f := ivB ms l d) (n := 1) (l := begL l x) fun b _ => qw2 ms l d b;have h2 := qr9 hl x;unfold ivX; omega
theorem qw3 {ms : List S1079} {l : S2062} (hl : LimOk l) (d : Int) : (ivD ms l d).length ≤ 2880 := by
 have h1 := qq4 (ms := ms) hl d (d - 1); have h2 := qq4 (ms := ms) hl d d;unfold ivD; rw [List.length_append]; omega
theorem q3m {ms : List S1079} {a2 : S115} (hp : s102 a2.Period = 0) {l : S2062} (hl : LimOk l) : (ivL ms a2 l).length ≤ 1154880 := by
 unfold ivL
 split
 ·have h1 := qkz (f := ivD ms l) (n := 2880) (l := (s69 a2.Period).1) fun d _ => qw3 hl d;have h2 := qnv hp
  omega
 ·simp
theorem q6i {ms : List S1079} {l : S2062} (hl : LimOk l) {d : Int} (hd0 : 0 ≤ d) (hd1 : d ≤ 1000000) (x : Int) (hx : x = d - 1 ∨ x = d) (rec4 : Int → Int → Int → Int → List Int → Option (List Bool)) (x26 x35 x36 x37 : Int) (e : List Int) (I : List (Int × Int)) (hc : Cch ms l x35 x36 x37) (he : Ed e I) (hI : I.length ≤ 900000000000) :
  ∃ y35 y36 y37 e', vt rec4 ms l d x26 (begL l x) x35 x36 x37 e = rec4 (x26 + 1) y35 y36 y37 e' ∧ Cch ms l y35 y36 y37 ∧ Ed e' (I ++ ivX ms l d x) := by
 have hn := qr9 hl x
 exact q07 hl hd0 hd1 rec4 x26 (begL l x) (fun b hb => by
  have := qf8 hl hb;have := hl.p0
  omega) x35 x36 x37 e I hc he (by omega)
theorem q6j {ms : List S1079} {l : S2062} (hl : LimOk l) {d : Int} (hd0 : 0 ≤ d) (hd1 : d ≤ 1000000) (rec3 : Nat → Int → Int → Int → List Int → Option (List Bool)) (k23 : Nat) (x35 x36 x37 : Int) (e : List Int) (I : List (Int × Int)) (hc : Cch ms l x35 x36 x37) (he : Ed e I) (hI : I.length ≤ 800000000000) :
  ∃ y35 y36 y37 e', ky rec3 ms l k23 d (((2 : Int) - 0).toNat) 0 x35 x36 x37 e = rec3 (k23 + 1) y35 y36 y37 e' ∧ Cch ms l y35 y36 y37 ∧ Ed e' (I ++ ivD ms l d) := by
 rw [show ((2 : Int) - 0).toNat = 0 + 1 + 1 from rfl, ky, wrap_i64 (by unfold I64; omega)];rw [show ixO [d - 1, d] 0 = some (d - 1) from rfl];simp only [zf];obtain ⟨u35, u36, u37, e1, g1, g2, g3⟩ := q6i (ms := ms) hl hd0 hd1 (d - 1) (.inl rfl) (fun z0_ z1_ z2_ z3_ z4_ => ky rec3 ms l k23 d (0 + 1) z0_ z1_ z2_ z3_ z4_) 0 x35 x36 x37 e I hc he (by omega);rw [g1, ky, wrap_i64 (by unfold I64; omega)];rw [show ixO [d - 1, d] (0 + 1) = some d from rfl];simp only [zf];have hx := qq4 (ms := ms) hl d (d - 1);obtain ⟨y35, y36, y37, e2, g4, g5, g6⟩ := q6i (ms := ms) hl hd0 hd1 d (.inr rfl) (fun z0_ z1_ z2_ z3_ z4_ => ky rec3 ms l k23 d 0 z0_ z1_ z2_ z3_ z4_) (0 + 1) u35 u36 u37 e1 (I ++ ivX ms l d (d - 1)) g2 g3 (by rw [List.length_append]; omega);rw [g4, ky];exact ⟨y35, y36, y37, e2, rfl, g5, by unfold ivD; rw [← List.append_assoc]; exact g6⟩
theorem q08 {ms : List S1079} {l : S2062} (hl : LimOk l) (rec1 : Nat → List Int → Option (List Bool)) (k4 : Nat) : ∀ (t : List Int), (∀ d ∈ t, 0 ≤ d ∧ d ≤ 1000000) → ∀ (k23 : Nat) (x35 x36 x37 : Int) (e : List Int) (I : List (Int × Int)), Cch ms l x35 x36 x37 → Ed e I → I.length + t.length * 2880 ≤ 700000000000 →
  ∃ e', vj rec1 ms k4 l t k23 x35 x36 x37 e = rec1 (k4 + 1) e' ∧ Ed e' (I ++ t.flatMap (ivD ms l))
 | [], _, k23, x35, x36, x37, e, I, hc, he, _ => ⟨e, rfl, by simpa using he⟩
 | d :: t, ht, k23, x35, x36, x37, e, I, hc, he, hI => by
  obtain ⟨h0, h1⟩ := ht d List.mem_cons_self;rw [List.length_cons, Nat.succ_mul] at hI;rw [vj];obtain ⟨y35, y36, y37, e1, g1, g2, g3⟩ := q6j (ms := ms) hl h0 h1 (fun k_ z0_ z1_ z2_ z3_ => vj rec1 ms k4 l t k_ z0_ z1_ z2_ z3_) k23 x35 x36 x37 e I hc he (by omega);have hx := qw3 (ms := ms) hl d;obtain ⟨e2, g4, g5⟩ := q08 hl rec1 k4 t (fun x hx => ht x (List.mem_cons_of_mem _ hx)) (k23 + 1) y35 y36 y37 e1 (I ++ ivD ms l d) g2 g3 (by rw [List.length_append]; omega);exact ⟨e2, g1.trans g4, by rw [List.flatMap_cons, ← List.append_assoc]; exact g5⟩
theorem qmw {p : S45} (hp : s102 p = 0) : ∀ d ∈ (s69 p).1, 0 ≤ d ∧ d ≤ 99999 := by
 intro d hd;rw [qlo hp] at hd;have h1 := qet _ _ _ d hd;obtain ⟨q1, q2, q3, q4, q5, q6⟩ := wv p hp
 omega
theorem qw4 {ms : List S1079} {a2 : S115} (hp : s102 a2.Period = 0) : ∀ (t : List S2062), (∀ l ∈ t, LimOk l) → ∀ (k4 : Nat) (e : List Int) (I : List (Int × Int)), Ed e I → I.length + t.length * 1154880 ≤ 600000000000 →
  ∃ F, ke ms a2 t k4 e = some F ∧ F.length = 1440 ∧ ∀ m : Nat, m < 1440 → F[m]? = some (inI m (I ++ ivs ms a2 t))
 | [], _, k4, e, I, he, hI => by
  rw [ke];rw [show ((1440 : Int) - 0).toNat = 1440 from rfl];generalize hN : (1440 : Nat) = N
  have q1 : I.length ≤ 1000000000000 := by rw [List.length_nil, Nat.zero_mul] at hI; omega
  have q2 : (List.replicate N false).length = 1440 := List.length_replicate.trans hN.symm
  have q3 : 0 + N = 1440 := by omega
  have q4 : ∀ m : Nat, m < 0 → (List.replicate N false)[m]? = some (inI m I) := fun m hm => absurd hm (Nat.not_lt_zero m);obtain ⟨F, g1, g2, g3⟩ := q06 he q1 N 0 (List.replicate N false) q3 q2 q4
  have e0 : aF ((0 : Nat) : Int) I - aT ((0 : Nat) : Int) I = 0 := by
   have h1 : aF ((0 : Nat) : Int) I = 0 := by
    unfold aF
    have : I.countP (fun q => decide (q.1 < ((0 : Nat) : Int))) = 0 := List.countP_eq_zero.2 fun q hq => by have := (he.rng q hq).1; simp; omega
    rw [this]; rfl
   have h2 : aT ((0 : Nat) : Int) I = 0 := by
    unfold aT
    have : I.countP (fun q => decide (q.2 < ((0 : Nat) : Int))) = 0 := List.countP_eq_zero.2 fun q hq => by have := he.rng q hq; simp; omega
    rw [this]; rfl
   rw [h1, h2]; rfl
  rw [e0] at g1;refine ⟨F, g1, g2.trans hN, fun m hm => ?_⟩;have := g3 m (by omega)
  simpa [ivs] using this
 | l :: t, ht, k4, e, I, he, hI => by
  have hl := ht l List.mem_cons_self;have ht' := fun x hx => ht x (List.mem_cons_of_mem _ hx)
  have hI2 : I.length + t.length * 1154880 + 1154880 ≤ 600000000000 := by rw [List.length_cons] at hI; omega
  clear hI;rw [ke, cond_eq_ite];have hx := q3m (ms := ms) hp hl
  cases hc : qbm l a2.Kind a2.Terminal with
  | false =>
   rw [if_pos (by simp), qe7];obtain ⟨F, g1, g2, g3⟩ := qw4 hp t ht' (k4 + 1) e I he (by omega);refine ⟨F, g1, g2, ?_⟩;unfold ivs at g3 ⊢;rw [List.flatMap_cons];unfold ivL at g3 ⊢;rw [hc, if_neg (by simp), List.nil_append]; exact g3
  | true =>
   rw [if_neg (by simp)];have hdl := qnv hp;obtain ⟨e1, g1, g2⟩ := q08 (ms := ms) hl (fun k_ z0_ => ke ms a2 t k_ z0_) k4 (s69 a2.Period).1 (fun d hd => by have := qmw hp d hd; omega) 0 0 (-1) 0 e I ⟨rfl, .inl rfl⟩ he (by omega)
   have eL : ivL ms a2 l = (s69 a2.Period).1.flatMap (ivD ms l) := by unfold ivL; rw [hc, if_pos rfl]
   rw [← eL] at g2;obtain ⟨F, g3, g4, g5⟩ := qw4 hp t ht' (k4 + 1) e1 (I ++ ivL ms a2 l) g2 (by rw [List.length_append]; omega);refine ⟨F, ?_, g4, ?_⟩
   ·rw [g1]; exact g3
   ·unfold ivs at g5 ⊢;rw [List.flatMap_cons, ← List.append_assoc]; exact g5
theorem q3n {a0 : List S2062} {a1 : List S1079} {a2 : S115} (h1 : a0.length ≤ 1000) (h2 : ∀ l ∈ a0, LimOk l) (hp : s102 a2.Period = 0) : ∃ F, qt2 a0 a1 a2 = some F ∧ F.length = 1440 ∧ ∀ m : Nat, m < 1440 → F[m]? = some (inI m (ivs a1 a2 a0)) := by
 unfold qt2;obtain ⟨F, g1, g2, g3⟩ := qw4 (ms := a1) hp a0 h2 0 (List.replicate 1441 0) [] q6f (by simp; omega);exact ⟨F, g1, g2, by simpa using g3⟩
theorem xv {α : Type} (A : List α) (x : α) (B : List α) {n : Int} (h : n = (A.length : Int)) : ixO (A ++ x :: B) n = some x := by
 subst h;unfold ixO;rw [decide_eq_true (by omega), cond_true]
 simp
theorem qeh {α : Type} (A : List α) (x y : α) (B : List α) {n : Int} (h : n = (A.length : Int)) : List.set (A ++ x :: B) n.toNat y = A ++ y :: B := by
 subst h
 simp
theorem q6k (a1 a2 : Int) : ∀ (X Y A B C : List S1079) (i : Int), X.length = Y.length → a1 + i = (A.length : Int) → a2 + i = (A.length : Int) + (X.length : Int) + (B.length : Int) →
  w4 a1 a2 X.length i (A ++ X ++ B ++ Y ++ C) = some (A ++ Y ++ B ++ X ++ C)
 | [], [], A, B, C, i, _, _, _ => by rw [List.length_nil, w4]
 | x :: X, y :: Y, A, B, C, i, h, h1, h2 => by
  have hl : X.length = Y.length := by simpa using h
  have hL : A ++ (x :: X) ++ B ++ (y :: Y) ++ C = (A ++ x :: X ++ B) ++ y :: (Y ++ C) := by simp
  have hL2 : (A ++ x :: X ++ B) ++ y :: (Y ++ C) = A ++ x :: (X ++ B ++ y :: (Y ++ C)) := by simp
  have e2 : a2 + i = ((A ++ x :: X ++ B).length : Int) := by rw [h2]; simp; omega
  rw [List.length_cons, w4, hL, xv _ _ _ e2];simp only [zf];rw [hL2, xv _ _ _ h1];simp only [zf];rw [qeh _ _ _ _ h1]
  have hL3 : A ++ y :: (X ++ B ++ y :: (Y ++ C)) = (A ++ y :: X ++ B) ++ y :: (Y ++ C) := by simp
  have e3 : a2 + i = ((A ++ y :: X ++ B).length : Int) := by rw [h2]; simp; omega
  rw [hL3, xv _ _ _ e3];simp only [zf];rw [qeh _ _ _ _ e3]
  have hL4 : (A ++ y :: X ++ B) ++ x :: (Y ++ C) = (A ++ [y]) ++ X ++ (B ++ [x]) ++ Y ++ C := by simp
  rw [hL4, q6k a1 a2 X Y (A ++ [y]) (B ++ [x]) C (i + 1) hl (by simp; omega) (by simp at h2 ⊢; omega)]
  simp
 | [], _ :: _, _, _, _, _, h, _, _ => by simp at h
 | _ :: _, [], _, _, _, _, h, _, _ => by simp at h
theorem qq5 (X Y A B C : List S1079) {a1 a2 a3 : Int} (a4 : S1079 → S1079 → Option Int) (h : X.length = Y.length) (h1 : a1 = (A.length : Int)) (h2 : a2 = (A.length : Int) + (X.length : Int) + (B.length : Int)) (h3 : a3 = (X.length : Int)) :
  qpm (A ++ X ++ B ++ Y ++ C) a1 a2 a3 a4 = some (A ++ Y ++ B ++ X ++ C) := by
 unfold qpm
 have e : (a3 - 0).toNat = X.length := by omega
 rw [e];exact q6k a1 a2 X Y A B C 0 h (by omega) (by omega)
theorem rotR (m : Int) (a4 : S1079 → S1079 → Option Int) : ∀ (k : Nat) (X Y P Q : List S1079), 0 < X.length → 0 < Y.length → X.length + Y.length < k → m = (P.length : Int) + (X.length : Int) →
  qar m a4 k (X.length : Int) (Y.length : Int) (P ++ X ++ Y ++ Q) = some (P ++ Y ++ X ++ Q)
 | 0, X, Y, P, Q, hx, hy, hk, hm => by omega
 | k + 1, X, Y, P, Q, hx, hy, hk, hm => by
  rw [qar]
  by_cases hne : X.length = Y.length
  ·rw [decide_eq_false (by omega), cond_false];have := qq5 X Y P [] Q a4 hne (a1 := m - (X.length : Int)) (a2 := m) (a3 := (X.length : Int)) (by omega) (by simp; omega) rfl;simp only [List.append_nil] at this;rw [this]; rfl
  ·rw [decide_eq_true (by omega), cond_true]
   by_cases hlt : Y.length < X.length
   ·rw [decide_eq_true (by omega), cond_true]
    -- X = X1 ++ X2, of which X1 is as long as Y
    obtain ⟨X1, X2, rfl, h1⟩ : ∃ X1 X2, X = X1 ++ X2 ∧ X1.length = Y.length := ⟨X.take Y.length, X.drop Y.length, (List.take_append_drop ..).symm, by rw [List.length_take]; omega⟩;simp only [List.length_append] at *;have hs := qq5 X1 Y P X2 Q a4 h1 (a1 := m - ((X1.length + X2.length : Nat) : Int)) (a2 := m) (a3 := (Y.length : Int)) (by omega) (by omega) (by omega);rw [show P ++ (X1 ++ X2) ++ Y ++ Q = P ++ X1 ++ X2 ++ Y ++ Q by simp, hs];simp only [zf];have ih := rotR m a4 k X2 X1 (P ++ Y) Q (by omega) (by omega) (by omega) (by simp; omega);rw [show (((X1.length + X2.length : Nat) : Int) - (Y.length : Int)) = (X2.length : Int) by omega, show (Y.length : Int) = (X1.length : Int) by omega, ih]
    simp
   ·rw [decide_eq_false (by omega), cond_false];obtain ⟨Y1, Y2, rfl, h1⟩ : ∃ Y1 Y2, Y = Y1 ++ Y2 ∧ Y2.length = X.length := ⟨Y.take (Y.length - X.length), Y.drop (Y.length - X.length), (List.take_append_drop ..).symm, by rw [List.length_drop]; omega⟩;simp only [List.length_append] at *;have hs := qq5 X Y2 P Y1 Q a4 h1.symm (a1 := m - (X.length : Int)) (a2 := (m + ((Y1.length + Y2.length : Nat) : Int)) - (X.length : Int)) (a3 := (X.length : Int)) (by omega) (by omega) rfl;rw [show P ++ X ++ (Y1 ++ Y2) ++ Q = P ++ X ++ Y1 ++ Y2 ++ Q by simp, hs];simp only [zf];have ih := rotR m a4 k Y2 Y1 P (X ++ Q) (by omega) (by omega) (by omega) (by omega);rw [show (((Y1.length + Y2.length : Nat) : Int) - (X.length : Int)) = (Y1.length : Int) by omega, show (X.length : Int) = (Y2.length : Int) by omega, show P ++ Y2 ++ Y1 ++ X ++ Q = P ++ Y2 ++ Y1 ++ (X ++ Q) by simp, ih]
    simp
theorem q6l (X Y P Q : List S1079) {a1 a2 a3 : Int} (a4 : S1079 → S1079 → Option Int) (hx : 0 < X.length) (hy : 0 < Y.length) (h1 : a1 = (P.length : Int)) (h2 : a2 = (P.length : Int) + (X.length : Int)) (h3 : a3 = (P.length : Int) + (X.length : Int) + (Y.length : Int)) :
  qpn (P ++ X ++ Y ++ Q) a1 a2 a3 a4 = some (P ++ Y ++ X ++ Q) := by
 unfold qpn;rw [show a2 - a1 = (X.length : Int) by omega, show a3 - a2 = (Y.length : Int) by omega];exact rotR a2 a4 _ X Y P Q hx hy (by omega) h2
structure WOrd (lt : S1079 → S1079 → Bool) (cmp : S1079 → S1079 → Option Int) : Prop where
 c : ∀ x y, ∃ v, cmp x y = some v ∧ decide (v < 0) = lt x y
 tr : ∀ x y z, lt y x = false → lt z y = false → lt z x = false
 asy : ∀ x y, lt x y = true → lt y x = false
variable {lt : S1079 → S1079 → Bool} {cmp : S1079 → S1079 → Option Int}
abbrev Srt (lt : S1079 → S1079 → Bool) (l : List S1079) : Prop := l.Pairwise fun x y => lt y x = false
theorem WOrd.lt_of (w : WOrd lt cmp) {x y z : S1079} (h1 : lt y x = false) (h2 : lt y z = true) : lt x z = true := by
 cases h : lt x z with
 | true => rfl
 | false => exact absurd (w.tr _ _ _ h h1) (by rw [h2]; simp)
theorem WOrd.lt_of' (w : WOrd lt cmp) {x y z : S1079} (h1 : lt x y = true) (h2 : lt z y = false) : lt x z = true := by
 cases h : lt x z with
 | true => rfl
 | false => exact absurd (w.tr _ _ _ h2 h) (by rw [h1]; simp)
theorem qsa {l : List S1079} (h : Srt lt l) {c : Nat} {y : S1079} (hc : l[c]? = some y) : ∀ x ∈ l.take (c + 1), x = y ∨ lt y x = false := by
 intro x hx;obtain ⟨i, hi⟩ := List.mem_iff_getElem?.1 hx;rw [List.getElem?_take] at hi
 split at hi
 ·rename_i hlt
  obtain ⟨h1, h2⟩ := List.getElem?_eq_some_iff.1 hc;obtain ⟨h3, h4⟩ := List.getElem?_eq_some_iff.1 hi
  by_cases hic : i = c
  ·subst hic; exact .inl (by rw [← h4, ← h2])
  ·refine .inr ?_;rw [← h4, ← h2];exact List.pairwise_iff_getElem.1 h i c h3 h1 (by omega)
 ·cases hi
theorem qsb {l : List S1079} (h : Srt lt l) {c : Nat} {y : S1079} (hc : l[c]? = some y) : ∀ x ∈ l.drop c, x = y ∨ lt x y = false := by
 intro x hx;obtain ⟨i, hi⟩ := List.mem_iff_getElem?.1 hx;rw [List.getElem?_drop] at hi;obtain ⟨h1, h2⟩ := List.getElem?_eq_some_iff.1 hc;obtain ⟨h3, h4⟩ := List.getElem?_eq_some_iff.1 hi
 by_cases hic : i = 0
 ·subst hic; exact .inl (by rw [← h4, ← h2]; rfl)
 ·refine .inr ?_;rw [← h4, ← h2];exact List.pairwise_iff_getElem.1 h c (c + i) h1 h3 (by omega)
theorem sea1 (w : WOrd lt cmp) (P Y Q : List S1079) (x : S1079) (hY : Srt lt Y) {a1 : Int} (ha : a1 = (P.length : Int)) : ∀ (k p q : Nat), p ≤ q → q ≤ Y.length → q - p < k →
  (∀ y ∈ Y.take p, lt y x = true) → (∀ y ∈ Y.drop q, lt y x = false) →
  ∃ i, i ≤ Y.length ∧ (∀ y ∈ Y.take i, lt y x = true) ∧ (∀ y ∈ Y.drop i, lt y x = false) ∧
   wd (P ++ [x] ++ Y ++ Q) a1 cmp k ((P.length : Int) + 1 + (p : Int)) ((P.length : Int) + 1 + (q : Int)) = w5 ((P.length : Int) + 1 + (i : Int)) ((((P.length : Int) + 1 + (i : Int)) - a1).toNat + 1) a1 (P ++ [x] ++ Y ++ Q)
 | 0, p, q, _, _, hk, _, _ => by omega
 | k + 1, p, q, hpq, hq, hk, h1, h2 => by
  by_cases he : p = q
  ·subst he;refine ⟨p, hq, h1, h2, ?_⟩;rw [wd, decide_eq_false (by omega), cond_false]
  ·have hlt : p < q := by omega
   have hc : (p + q) / 2 < Y.length := by omega
   have e0 : (((P.length : Int) + 1 + (p : Int)) + ((P.length : Int) + 1 + (q : Int))) / 2 = (P.length : Int) + 1 + (((p + q) / 2 : Nat) : Int) := by omega
   obtain ⟨y, hy⟩ : ∃ y, Y[(p + q) / 2]? = some y := ⟨Y[(p + q) / 2], List.getElem?_eq_getElem hc⟩
   have i1 : ixO (P ++ [x] ++ Y ++ Q) ((P.length : Int) + 1 + (((p + q) / 2 : Nat) : Int)) = some y := by
    have hs : P ++ [x] ++ Y ++ Q = (P ++ [x] ++ Y.take ((p + q) / 2)) ++ y :: (Y.drop ((p + q) / 2 + 1) ++ Q) := by
     have hd := List.drop_eq_getElem_cons hc;have hy' := (List.getElem?_eq_some_iff.1 hy).2;rw [hy'] at hd
     conv => lhs; rw [← List.take_append_drop ((p + q) / 2) Y, hd]
     simp
    rw [hs, xv]
    simp; omega
   have i2 : ixO (P ++ [x] ++ Y ++ Q) a1 = some x := by
    rw [show P ++ [x] ++ Y ++ Q = P ++ x :: (Y ++ Q) by simp, xv _ _ _ ha]
   obtain ⟨v, hv, hd⟩ := w.c y x;rw [wd, decide_eq_true (by omega), cond_true, e0, i1];simp only [zf];rw [i2];simp only [zf];rw [hv];simp only [zf];rw [hd]
   cases hl : lt y x with
   | true =>
    rw [cond_true, show ((P.length : Int) + 1 + (((p + q) / 2 : Nat) : Int)) + 1 = (P.length : Int) + 1 + (((p + q) / 2 + 1 : Nat) : Int) by omega]
    exact sea1 w P Y Q x hY ha k ((p + q) / 2 + 1) q (by omega) hq (by omega) (fun z hz => by
     rcases qsa hY hy z hz with rfl | h
     ·exact hl
     ·exact w.lt_of h hl) h2
   | false =>
    rw [cond_false]
    exact sea1 w P Y Q x hY ha k p ((p + q) / 2) (by omega) (by omega) (by omega) h1 (fun z hz => by
     rcases qsb hY hy z hz with rfl | h
     ·exact hl
     ·exact w.tr _ _ _ hl h)
variable {lt : S1079 → S1079 → Bool} {cmp : S1079 → S1079 → Option Int}
theorem sh2 (x1 : Int) : ∀ (Y P R : List S1079) (x : S1079) (k : Nat), Y.length < k → x1 = (P.length : Int) + 1 + (Y.length : Int) → w5 x1 k (P.length : Int) (P ++ x :: (Y ++ R)) = some (P ++ Y ++ x :: R)
 | _, _, _, _, 0, hk, _ => by omega
 | [], P, R, x, k + 1, hk, h => by
  rw [w5, decide_eq_false (by simp at h; omega), cond_false]; simp
 | y :: Y, P, R, x, k + 1, hk, h => by
  have hk : Y.length < k := by simp at hk; omega
  have h' : x1 = (P.length : Int) + 1 + ((Y.length : Int) + 1) := by rw [h]; simp
  have e1 : P ++ x :: (y :: Y ++ R) = (P ++ [x]) ++ y :: (Y ++ R) := by simp
  have q1 : ((P.length : Int) + 1) = ((P ++ [x]).length : Int) := by simp
  rw [w5, decide_eq_true (by omega), cond_true]
  have i1 : ixO (P ++ x :: (y :: Y ++ R)) ((P.length : Int) + 1) = some y := by rw [e1, xv _ _ _ q1]
  have i2 : ixO (P ++ x :: (y :: Y ++ R)) (P.length : Int) = some x := xv _ _ _ rfl;rw [i1];simp only [zf];rw [i2];simp only [zf];rw [qeh P x y _ rfl]
  have e2 : P ++ y :: (y :: Y ++ R) = (P ++ [y]) ++ y :: (Y ++ R) := by simp
  have q2 : ((P.length : Int) + 1) = ((P ++ [y]).length : Int) := by simp
  rw [e2, xv _ _ _ q2];simp only [zf];rw [qeh _ _ _ _ q2, q2, sh2 x1 Y (P ++ [y]) R x k hk (by rw [h']; simp; omega)]
  simp
theorem sh4 : ∀ (n : Nat) (X P R : List S1079) (y : S1079) (k : Nat), X.length = n → n < k → w6 (P.length : Int) k ((P.length : Int) + (n : Int)) (P ++ X ++ y :: R) = some (P ++ y :: (X ++ R))
 | n, X, P, R, y, 0, _, hk => by omega
 | 0, X, P, R, y, k + 1, hX, hk => by
  obtain rfl := List.eq_nil_of_length_eq_zero hX;rw [w6, decide_eq_false (by omega), cond_false]; simp
 | n + 1, X, P, R, y, k + 1, hX, hk => by
  obtain ⟨X', z, rfl⟩ : ∃ X' z, X = X' ++ [z] := by
   rcases List.eq_nil_or_concat X with rfl | ⟨X', z, h⟩
   ·simp at hX
   ·exact ⟨X', z, by simpa using h⟩
  have hX' : X'.length = n := by simpa using hX
  have e1 : P ++ (X' ++ [z]) ++ y :: R = (P ++ X') ++ z :: (y :: R) := by simp
  have e2 : P ++ (X' ++ [z]) ++ y :: R = (P ++ X' ++ [z]) ++ y :: R := by simp
  have q1 : ((P.length : Int) + ((n + 1 : Nat) : Int)) - 1 = ((P ++ X').length : Int) := by first | (simp [hX']; done) | (simp [hX']; omega)
  have q2 : ((P.length : Int) + ((n + 1 : Nat) : Int)) = ((P ++ X' ++ [z]).length : Int) := by first | (simp [hX']; done) | (simp [hX']; omega)
  have i1 : ixO (P ++ (X' ++ [z]) ++ y :: R) (((P.length : Int) + ((n + 1 : Nat) : Int)) - 1) = some z := by rw [e1, xv _ _ _ q1]
  have i2 : ixO (P ++ (X' ++ [z]) ++ y :: R) ((P.length : Int) + ((n + 1 : Nat) : Int)) = some y := by rw [e2, xv _ _ _ q2]
  rw [w6, decide_eq_true (by omega), cond_true, i1];simp only [zf];rw [i2];simp only [zf]
  have s1 : List.set (P ++ (X' ++ [z]) ++ y :: R) (Int.toNat ((P.length : Int) + ((n + 1 : Nat) : Int))) z = (P ++ X' ++ [z]) ++ z :: R := by rw [e2, qeh _ _ _ _ q2]
  rw [s1]
  have e3 : (P ++ X' ++ [z]) ++ z :: R = (P ++ X') ++ z :: (z :: R) := by simp
  rw [e3, xv _ _ _ q1];simp only [zf];rw [qeh _ _ _ _ q1]
  have q3 : ((P.length : Int) + ((n + 1 : Nat) : Int)) - 1 = (P.length : Int) + (n : Int) := by omega
  rw [q3, show P ++ X' ++ y :: (z :: R) = P ++ X' ++ y :: (z :: R) from rfl, sh4 n X' P (z :: R) y k hX' (by omega)]
  simp
theorem sea3 (w : WOrd lt cmp) (P X Q : List S1079) (y : S1079) (hX : Srt lt X) {a2 : Int} (ha : a2 = (P.length : Int) + (X.length : Int)) : ∀ (k p q : Nat), p ≤ q → q ≤ X.length → q - p < k →
  (∀ x ∈ X.take p, lt y x = false) → (∀ x ∈ X.drop q, lt y x = true) →
  ∃ i, i ≤ X.length ∧ (∀ x ∈ X.take i, lt y x = false) ∧ (∀ x ∈ X.drop i, lt y x = true) ∧
   we (P ++ X ++ [y] ++ Q) a2 cmp k ((P.length : Int) + (p : Int)) ((P.length : Int) + (q : Int)) = w6 ((P.length : Int) + (i : Int)) ((a2 - ((P.length : Int) + (i : Int))).toNat + 1) a2 (P ++ X ++ [y] ++ Q)
 | 0, p, q, _, _, hk, _, _ => by omega
 | k + 1, p, q, hpq, hq, hk, h1, h2 => by
  by_cases he : p = q
  ·subst he;refine ⟨p, hq, h1, h2, ?_⟩;rw [we, decide_eq_false (by omega), cond_false]
  ·have hlt : p < q := by omega
   have hc : (p + q) / 2 < X.length := by omega
   have e0 : (((P.length : Int) + (p : Int)) + ((P.length : Int) + (q : Int))) / 2 = (P.length : Int) + (((p + q) / 2 : Nat) : Int) := by omega
   obtain ⟨x, hx⟩ : ∃ x, X[(p + q) / 2]? = some x := ⟨X[(p + q) / 2], List.getElem?_eq_getElem hc⟩
   have i1 : ixO (P ++ X ++ [y] ++ Q) ((P.length : Int) + (((p + q) / 2 : Nat) : Int)) = some x := by
    have hs : P ++ X ++ [y] ++ Q = (P ++ X.take ((p + q) / 2)) ++ x :: (X.drop ((p + q) / 2 + 1) ++ [y] ++ Q) := by
     have hd := List.drop_eq_getElem_cons hc;have hx' := (List.getElem?_eq_some_iff.1 hx).2;rw [hx'] at hd
     conv => lhs; rw [← List.take_append_drop ((p + q) / 2) X, hd]
     simp
    rw [hs, xv]
    simp; omega
   have i2 : ixO (P ++ X ++ [y] ++ Q) a2 = some y := by
    rw [show P ++ X ++ [y] ++ Q = (P ++ X) ++ y :: Q by simp, xv];rw [ha]; simp
   obtain ⟨v, hv, hd⟩ := w.c y x;rw [we, decide_eq_true (by omega), cond_true, e0, i2];simp only [zf];rw [i1];simp only [zf];rw [hv];simp only [zf];rw [hd]
   cases hl : lt y x with
   | false =>
    rw [Bool.not_false, cond_true, show ((P.length : Int) + (((p + q) / 2 : Nat) : Int)) + 1 = (P.length : Int) + (((p + q) / 2 + 1 : Nat) : Int) by omega]
    exact sea3 w P X Q y hX ha k ((p + q) / 2 + 1) q (by omega) hq (by omega) (fun z hz => by
     rcases qsa hX hx z hz with rfl | h
     ·exact hl
     ·exact w.tr _ _ _ h hl) h2
   | true =>
    rw [Bool.not_true, cond_false]
    exact sea3 w P X Q y hX ha k p ((p + q) / 2) (by omega) (by omega) (by omega) h1 (fun z hz => by
     rcases qsb hX hx z hz with rfl | h
     ·exact hl
     ·exact w.lt_of' hl h)
variable {lt : S1079 → S1079 → Bool} {cmp : S1079 → S1079 → Option Int}
theorem qfi {l : List S1079} (w : WOrd lt cmp) (h : Srt lt l) {i j : Nat} {x y : S1079} (hi : l[i]? = some x) (hj : l[j]? = some y) (hij : i ≤ j) : lt y x = false := by
 obtain ⟨h1, h2⟩ := List.getElem?_eq_some_iff.1 hi;obtain ⟨h3, h4⟩ := List.getElem?_eq_some_iff.1 hj
 rcases Nat.lt_or_ge i j with h5 | h5
 ·have := List.pairwise_iff_getElem.1 h i j h1 h3 h5;rw [h2, h4] at this;exact this
 ·have : i = j := by omega
  subst this
  have : x = y := by rw [← h2, ← h4]
  subst this
  cases hc : lt x x with
  | false => rfl
  | true => exact absurd (w.asy _ _ hc) (by rw [hc]; simp)
theorem qw5 {α : Type} (A X B : List α) {j : Nat} {x : α} (hx : X[j]? = some x) {n : Int} (h : n = (A.length : Int) + (j : Int)) : ixO (A ++ X ++ B) n = some x := by
 obtain ⟨h1, h2⟩ := List.getElem?_eq_some_iff.1 hx;have hd := List.drop_eq_getElem_cons h1;rw [h2] at hd
 have hs : A ++ X ++ B = (A ++ X.take j) ++ x :: (X.drop (j + 1) ++ B) := by
  conv => lhs; rw [← List.take_append_drop j X, hd]
  simp
 rw [hs, xv];rw [h]; simp; omega
theorem sea5 (w : WOrd lt cmp) {self : (List S1079) → Int → Int → Int → (S1079 → S1079 → Option Int) → Option (List S1079)} (P X Y Q : List S1079) (hX : Srt lt X) (hY : Srt lt Y) {a m b : Int} {hh s0 r0 : Nat}
  (ha : a = (P.length : Int)) (hm : m = (P.length : Int) + (X.length : Int)) (hb : (a + b) / 2 = (P.length : Int) + (hh : Int)) (hs : hh ≤ s0 + Y.length) (hr : r0 ≤ X.length) (hr2 : r0 ≤ hh) : ∀ (k p q : Nat), s0 ≤ p → p ≤ q → q ≤ r0 → q - p < k →
  (∀ v x y, s0 ≤ v → v < p → X[v]? = some x → Y[hh - 1 - v]? = some y → lt y x = false) → (∀ v x y, q ≤ v → v < r0 → X[v]? = some x → Y[hh - 1 - v]? = some y → lt y x = true) →
  ∃ u, s0 ≤ u ∧ u ≤ r0 ∧ (∀ v x y, s0 ≤ v → v < u → X[v]? = some x → Y[hh - 1 - v]? = some y → lt y x = false) ∧ (∀ v x y, u ≤ v → v < r0 → X[v]? = some x → Y[hh - 1 - v]? = some y → lt y x = true) ∧
   wg self (P ++ X ++ Y ++ Q) a m b cmp k ((P.length : Int) + (p : Int)) ((P.length : Int) + (q : Int)) =
    (bif (decide ((P.length : Int) + (u : Int) < m)) && (decide (m < (((a + b) / 2) + m) - ((P.length : Int) + (u : Int)))) then zf (qpn (P ++ X ++ Y ++ Q) ((P.length : Int) + (u : Int)) m ((((a + b) / 2) + m) - ((P.length : Int) + (u : Int))) cmp) fun r43 => xq self a m b cmp ((P.length : Int) + (u : Int)) r43 else xq self a m b cmp ((P.length : Int) + (u : Int)) (P ++ X ++ Y ++ Q))
 | 0, p, q, _, _, _, hk, _, _ => by omega
 | k + 1, p, q, hsp, hpq, hq, hk, h1, h2 => by
  by_cases he : p = q
  ·subst he;refine ⟨p, hsp, hq, h1, h2, ?_⟩;rw [wg, decide_eq_false (by omega), cond_false]
  ·have hlt : p < q := by omega
   obtain ⟨c, hcd⟩ : ∃ c, c = (p + q) / 2 := ⟨_, rfl⟩
   have hc : c < X.length := by omega
   have hcy : hh - 1 - c < Y.length := by omega
   have e0 : (((P.length : Int) + (p : Int)) + ((P.length : Int) + (q : Int))) / 2 = (P.length : Int) + (c : Int) := by omega
   obtain ⟨x, hx⟩ : ∃ x, X[c]? = some x := ⟨X[c], List.getElem?_eq_getElem hc⟩;obtain ⟨y, hy⟩ : ∃ y, Y[hh - 1 - c]? = some y := ⟨Y[hh - 1 - c], List.getElem?_eq_getElem hcy⟩
   have i1 : ixO (P ++ X ++ Y ++ Q) ((P.length : Int) + (c : Int)) = some x := by
    rw [show P ++ X ++ Y ++ Q = P ++ X ++ (Y ++ Q) by simp, qw5 P X (Y ++ Q) hx rfl]
   have i2 : ixO (P ++ X ++ Y ++ Q) (((((a + b) / 2) + m) - 1) - ((P.length : Int) + (c : Int))) = some y := by
    rw [qw5 (P ++ X) Y Q hy];rw [hb, hm]; simp; omega
   obtain ⟨v, hv, hd⟩ := w.c y x;rw [wg, decide_eq_true (by omega), cond_true, e0, i2];simp only [zf];rw [i1];simp only [zf];rw [hv];simp only [zf];rw [hd]
   cases hl : lt y x with
   | false =>
    rw [Bool.not_false, cond_true, show ((P.length : Int) + (c : Int)) + 1 = (P.length : Int) + ((c + 1 : Nat) : Int) by omega]
    exact sea5 w P X Y Q hX hY ha hm hb hs hr hr2 k (c + 1) q (by omega) (by omega) hq (by omega) (fun v x' y' hv1 hv2 hx' hy' => by
     -- x' before x, y' behind y
     have g1 := qfi w hX hx' hx (by omega);have g2 := qfi w hY hy hy' (by omega)
     exact w.tr _ _ _ (w.tr _ _ _ g1 hl) g2) h2
   | true =>
    rw [Bool.not_true, cond_false]
    exact sea5 w P X Y Q hX hY ha hm hb hs hr hr2 k p c (by omega) (by omega) (by omega) (by omega) h1 (fun v x' y' hv1 hv2 hx' hy' => by
     have g1 := qfi w hX hx hx' (by omega);have g2 := qfi w hY hy' hy (by omega)
     exact w.lt_of' (w.lt_of g2 hl) g1)
variable {lt : S1079 → S1079 → Bool} {cmp : S1079 → S1079 → Option Int}
def qw6 (lt : S1079 → S1079 → Bool) (f : (List S1079) → Int → Int → Int → Option (List S1079)) (X Y P Q : List S1079) : Prop :=
 ∃ Z, f (P ++ X ++ Y ++ Q) (P.length : Int) ((P.length : Int) + (X.length : Int)) ((P.length : Int) + (X.length : Int) + (Y.length : Int)) = some (P ++ Z ++ Q) ∧ Z.Perm (X ++ Y) ∧ Srt lt Z
theorem qzz (w : WOrd lt cmp) (x : S1079) (Y P Q : List S1079) (hY : Srt lt Y) :
  ∃ Z, wd (P ++ [x] ++ Y ++ Q) (P.length : Int) cmp (Y.length + 1) ((P.length : Int) + 1) ((P.length : Int) + 1 + (Y.length : Int)) = some (P ++ Z ++ Q) ∧ Z.Perm ([x] ++ Y) ∧ Srt lt Z := by
 obtain ⟨i, hi, h1, h2, h3⟩ := sea1 w P Y Q x hY rfl (Y.length + 1) 0 Y.length (Nat.zero_le _) (Nat.le_refl _) (by omega) (fun y hy => by simp at hy) (fun y hy => by simp at hy);rw [show ((P.length : Int) + 1 + ((0 : Nat) : Int)) = (P.length : Int) + 1 by simp] at h3;refine ⟨Y.take i ++ x :: Y.drop i, ?_, ?_, ?_⟩
 ·rw [h3]
  have hs : P ++ [x] ++ Y ++ Q = P ++ x :: (Y.take i ++ (Y.drop i ++ Q)) := by
   rw [← List.append_assoc (Y.take i), List.take_append_drop]; simp
  rw [hs, sh2 _ (Y.take i) P (Y.drop i ++ Q) x _ (by rw [List.length_take]; omega) (by rw [List.length_take]; omega)]
  simp
 ·have := List.perm_middle (a := x) (l₁ := Y.take i) (l₂ := Y.drop i);rw [List.take_append_drop] at this;exact this
 ·refine List.pairwise_append.2 ⟨hY.sublist (List.take_sublist _ _), List.pairwise_cons.2 ⟨h2, hY.sublist (List.drop_sublist _ _)⟩, ?_⟩;intro a ha b hb
  rcases List.mem_cons.1 hb with rfl | hb
  ·exact w.asy _ _ (h1 a ha)
  ·have := w.lt_of' (h1 a ha) (h2 b hb);exact w.asy _ _ this
theorem qw7 (w : WOrd lt cmp) (y : S1079) (X P Q : List S1079) (hX : Srt lt X) :
  ∃ Z, we (P ++ X ++ [y] ++ Q) ((P.length : Int) + (X.length : Int)) cmp (X.length + 1) (P.length : Int) ((P.length : Int) + (X.length : Int)) = some (P ++ Z ++ Q) ∧ Z.Perm (X ++ [y]) ∧ Srt lt Z := by
 obtain ⟨i, hi, h1, h2, h3⟩ := sea3 w P X Q y hX rfl (X.length + 1) 0 X.length (Nat.zero_le _) (Nat.le_refl _) (by omega) (fun y hy => by simp at hy) (fun y hy => by simp at hy);rw [show ((P.length : Int) + ((0 : Nat) : Int)) = (P.length : Int) by simp] at h3;refine ⟨X.take i ++ y :: X.drop i, ?_, ?_, ?_⟩
 ·rw [h3]
  have hl : (P ++ X.take i).length = P.length + i := by simp; omega
  have hs : P ++ X ++ [y] ++ Q = (P ++ X.take i) ++ X.drop i ++ y :: Q := by
   conv => lhs; rw [← List.take_append_drop i X]
   simp
  have e1 : (P.length : Int) + (i : Int) = ((P ++ X.take i).length : Int) := by rw [hl]; omega
  have e2 : (P.length : Int) + (X.length : Int) = ((P ++ X.take i).length : Int) + ((X.length - i : Nat) : Int) := by rw [hl]; omega
  rw [e1, e2, hs, sh4 (X.length - i) (X.drop i) (P ++ X.take i) Q y _ (by simp) (by omega)]
  simp
 ·have := List.perm_middle (a := y) (l₁ := X.take i) (l₂ := X.drop i);rw [List.take_append_drop] at this;exact this.trans (List.perm_append_comm (l₁ := [y]) (l₂ := X))
 ·refine List.pairwise_append.2 ⟨hX.sublist (List.take_sublist _ _), List.pairwise_cons.2 ⟨fun b hb => w.asy _ _ (h2 b hb), hX.sublist (List.drop_sublist _ _)⟩, ?_⟩;intro a ha b hb
  rcases List.mem_cons.1 hb with rfl | hb
  ·exact h1 a ha
  ·exact w.asy _ _ (w.lt_of (h1 a ha) (h2 b hb))
variable {lt : S1079 → S1079 → Bool} {cmp : S1079 → S1079 → Option Int}
section
variable {self : (List S1079) → Int → Int → Int → (S1079 → S1079 → Option Int) → Option (List S1079)} {N : Nat}
 (ih : ∀ X Y P Q : List S1079, 0 < X.length → 0 < Y.length → X.length + Y.length < N → Srt lt X → Srt lt Y → qw6 lt (fun l a m b => self l a m b cmp) X Y P Q)
include ih
theorem q6m (A B P R : List S1079) (hA : Srt lt A) (hB : Srt lt B) (hN : A.length + B.length < N) {a m b x : Int} (ha : a = (P.length : Int)) (hx : x = (P.length : Int) + (A.length : Int)) (hmid : (a + b) / 2 = (P.length : Int) + (A.length : Int) + (B.length : Int)) :
  ∃ Z, xq self a m b cmp x (P ++ A ++ B ++ R) = qbc self a m b cmp x (P ++ Z ++ R) ∧ Z.Perm (A ++ B) ∧ Srt lt Z := by
 unfold xq
 by_cases h1 : 0 < A.length
 ·by_cases h2 : 0 < B.length
  ·obtain ⟨Z, q1, q2, q3⟩ := ih A B P R h1 h2 hN hA hB;refine ⟨Z, ?_, q2, q3⟩;rw [decide_eq_true (by omega), decide_eq_true (by omega), Bool.and_self, cond_true, hmid, hx, ha];have q1 : self (P ++ A ++ B ++ R) (P.length : Int) ((P.length : Int) + (A.length : Int)) ((P.length : Int) + (A.length : Int) + (B.length : Int)) cmp = some (P ++ Z ++ R) := q1;rw [q1]; rfl
  ·have hb0 : B = [] := List.eq_nil_of_length_eq_zero (by omega);subst hb0;refine ⟨A, ?_, by simp, hA⟩;rw [decide_eq_false (show ¬ x < (a + b) / 2 by rw [hmid, hx]; simp), Bool.and_false, cond_false, List.append_nil]
 ·have ha0 : A = [] := List.eq_nil_of_length_eq_zero (by omega);subst ha0;refine ⟨B, ?_, by simp, hB⟩;rw [decide_eq_false (show ¬ a < x by rw [ha, hx]; simp), Bool.false_and, cond_false, List.append_nil]
theorem q6n (C D P Q : List S1079) (hC : Srt lt C) (hD : Srt lt D) (hN : C.length + D.length < N) {a m b x : Int} (hmid : (a + b) / 2 = (P.length : Int)) (hx : (((a + b) / 2) + m) - x = (P.length : Int) + (C.length : Int)) (hb : b = (P.length : Int) + (C.length : Int) + (D.length : Int)) :
  ∃ Z, qbc self a m b cmp x (P ++ C ++ D ++ Q) = some (P ++ Z ++ Q) ∧ Z.Perm (C ++ D) ∧ Srt lt Z := by
 unfold qbc;rw [hx]
 by_cases h1 : 0 < C.length
 ·by_cases h2 : 0 < D.length
  ·obtain ⟨Z, q1, q2, q3⟩ := ih C D P Q h1 h2 hN hC hD;refine ⟨Z, ?_, q2, q3⟩;rw [decide_eq_true (by omega), decide_eq_true (by omega), Bool.and_self, cond_true, hmid, hb];have q1 : self (P ++ C ++ D ++ Q) (P.length : Int) ((P.length : Int) + (C.length : Int)) ((P.length : Int) + (C.length : Int) + (D.length : Int)) cmp = some (P ++ Z ++ Q) := q1;rw [q1]; rfl
  ·have hd0 : D = [] := List.eq_nil_of_length_eq_zero (by omega);subst hd0;refine ⟨C, ?_, by simp, hC⟩;rw [decide_eq_false (show ¬ (P.length : Int) + (C.length : Int) < b by rw [hb]; simp), Bool.and_false, cond_false, List.append_nil]
 ·have hc0 : C = [] := List.eq_nil_of_length_eq_zero (by omega);subst hc0;refine ⟨D, ?_, by simp, hD⟩;rw [decide_eq_false (show ¬ (a + b) / 2 < (P.length : Int) + ((([] : List S1079).length : Nat) : Int) by rw [hmid]; simp), Bool.false_and, cond_false, List.append_nil]
theorem qw8 (w : WOrd lt cmp) (X Y P Q : List S1079) (hX : Srt lt X) (hY : Srt lt Y) (hN : X.length + Y.length ≤ N) (hx2 : 1 < X.length) (hy2 : 1 < Y.length) {a m b : Int} {s0 r0 : Nat} (ha : a = (P.length : Int)) (hm : m = (P.length : Int) + (X.length : Int)) (hb : b = (P.length : Int) + (X.length : Int) + (Y.length : Int))
  (hs : (X.length + Y.length) / 2 ≤ s0 + Y.length) (hr : r0 ≤ X.length) (hr2 : r0 ≤ (X.length + Y.length) / 2) (hsr : s0 ≤ r0) (hs0 : s0 = 0 ∨ s0 + Y.length = (X.length + Y.length) / 2) (hr0 : r0 = X.length ∨ r0 = (X.length + Y.length) / 2) (k : Nat) (hk : r0 - s0 < k) :
  ∃ Z, wg self (P ++ X ++ Y ++ Q) a m b cmp k ((P.length : Int) + (s0 : Int)) ((P.length : Int) + (r0 : Int)) = some (P ++ Z ++ Q) ∧ Z.Perm (X ++ Y) ∧ Srt lt Z := by
 obtain ⟨hh, hhd⟩ : ∃ hh, hh = (X.length + Y.length) / 2 := ⟨_, rfl⟩;rw [← hhd] at hs hr2 hs0 hr0
 have hmid : (a + b) / 2 = (P.length : Int) + (hh : Int) := by omega
 obtain ⟨u, u1, u2, i1, i2, he⟩ := sea5 w (self := self) P X Y Q hX hY ha hm hmid hs hr hr2 k s0 r0 (Nat.le_refl _) hsr (Nat.le_refl _) hk (fun v x y h1 h2 => by omega) (fun v x y h1 h2 => by omega);rw [he];have hrot : (bif (decide ((P.length : Int) + (u : Int) < m)) && (decide (m < (((a + b) / 2) + m) - ((P.length : Int) + (u : Int)))) then zf (qpn (P ++ X ++ Y ++ Q) ((P.length : Int) + (u : Int)) m ((((a + b) / 2) + m) - ((P.length : Int) + (u : Int))) cmp) fun r43 => xq self a m b cmp ((P.length : Int) + (u : Int)) r43 else xq self a m b cmp ((P.length : Int) + (u : Int)) (P ++ X ++ Y ++ Q))
   = xq self a m b cmp ((P.length : Int) + (u : Int)) (P ++ X.take u ++ Y.take (hh - u) ++ (X.drop u ++ Y.drop (hh - u) ++ Q)) := by
  by_cases c1 : u < X.length
  ·by_cases c2 : u < hh
   ·rw [decide_eq_true (by omega), decide_eq_true (by omega), Bool.and_self, cond_true]
    have hsp : P ++ X ++ Y ++ Q = (P ++ X.take u) ++ X.drop u ++ Y.take (hh - u) ++ (Y.drop (hh - u) ++ Q) := by
     calc P ++ X ++ Y ++ Q = P ++ (X.take u ++ X.drop u) ++ (Y.take (hh - u) ++ Y.drop (hh - u)) ++ Q := by rw [List.take_append_drop, List.take_append_drop]
      _ = _ := by simp only [List.append_assoc]
    have hlu : (X.take u).length = u := by rw [List.length_take]; omega
    have hly : (Y.take (hh - u)).length = hh - u := by rw [List.length_take]; omega
    have := q6l (X.drop u) (Y.take (hh - u)) (P ++ X.take u) (Y.drop (hh - u) ++ Q) cmp (a1 := (P.length : Int) + (u : Int)) (a2 := m) (a3 := (((a + b) / 2) + m) - ((P.length : Int) + (u : Int))) (by simp; omega) (by omega) (by simp; omega) (by simp; omega) (by rw [hmid]; simp; omega);rw [hsp, this];simp only [zf]
    congr 1
    simp
   ·have hu : u = hh := by omega
    subst hu;rw [decide_eq_false (show ¬ m < _ by omega), Bool.and_false, cond_false]
    congr 1
    rw [Nat.sub_self, List.take_zero, List.drop_zero, List.append_nil]
    calc P ++ X ++ Y ++ Q = P ++ (X.take u ++ X.drop u) ++ Y ++ Q := by rw [List.take_append_drop]
     _ = _ := by simp only [List.append_assoc]
  ·have hu : u = X.length := by omega
   subst hu;rw [decide_eq_false (show ¬ (P.length : Int) + ((X.length : Nat) : Int) < m by omega), Bool.false_and, cond_false]
   congr 1
   rw [List.take_length, List.drop_length, List.nil_append]
   calc P ++ X ++ Y ++ Q = P ++ X ++ (Y.take (hh - X.length) ++ Y.drop (hh - X.length)) ++ Q := by rw [List.take_append_drop]
    _ = _ := by simp only [List.append_assoc]
 rw [hrot];have hXt : Srt lt (X.take u) := hX.sublist (List.take_sublist _ _);have hXd : Srt lt (X.drop u) := hX.sublist (List.drop_sublist _ _);have hYt : Srt lt (Y.take (hh - u)) := hY.sublist (List.take_sublist _ _);have hYd : Srt lt (Y.drop (hh - u)) := hY.sublist (List.drop_sublist _ _)
 have l1 : (X.take u).length = u := by rw [List.length_take]; omega
 have l2 : (Y.take (hh - u)).length = hh - u := by rw [List.length_take]; omega
 have l3 : (X.drop u).length = X.length - u := List.length_drop ..;have l4 : (Y.drop (hh - u)).length = Y.length - (hh - u) := List.length_drop ..;obtain ⟨Z1, e1, p1, z1⟩ := q6m ih (X.take u) (Y.take (hh - u)) P (X.drop u ++ Y.drop (hh - u) ++ Q) hXt hYt (by omega) (a := a) (m := m) (b := b) (x := (P.length : Int) + (u : Int)) ha (by omega) (by omega);rw [e1]
 have lz : Z1.length = hh := by rw [p1.length_eq, List.length_append]; omega
 obtain ⟨Z2, e2, p2, z2⟩ := q6n ih (X.drop u) (Y.drop (hh - u)) (P ++ Z1) Q hXd hYd (by omega) (a := a) (m := m) (b := b) (x := (P.length : Int) + (u : Int)) (by rw [List.length_append]; omega) (by rw [List.length_append]; omega) (by rw [List.length_append]; omega);refine ⟨Z1 ++ Z2, ?_, ?_, ?_⟩
 ·rw [show P ++ Z1 ++ (X.drop u ++ Y.drop (hh - u) ++ Q) = P ++ Z1 ++ X.drop u ++ Y.drop (hh - u) ++ Q by simp, e2]; simp
 ·refine (p1.append p2).trans ?_
  have : (X.take u ++ Y.take (hh - u) ++ (X.drop u ++ Y.drop (hh - u))).Perm (X.take u ++ X.drop u ++ (Y.take (hh - u) ++ Y.drop (hh - u))) := by
   rw [List.append_assoc, List.append_assoc];refine List.Perm.append_left _ ?_;rw [← List.append_assoc, ← List.append_assoc];exact List.Perm.append_right _ List.perm_append_comm
  rwa [List.take_append_drop, List.take_append_drop] at this
 ·refine List.pairwise_append.2 ⟨z1, z2, fun x hx y hy => ?_⟩;have hx := p1.mem_iff.1 hx;have hy := p2.mem_iff.1 hy
  have get_t : ∀ {l : List S1079} {n : Nat} {x : S1079}, x ∈ l.take n → ∃ i, i < n ∧ l[i]? = some x := by
   intro l n x h;obtain ⟨i, hi⟩ := List.mem_iff_getElem?.1 h;rw [List.getElem?_take] at hi
   split at hi
   ·exact ⟨i, by assumption, hi⟩
   ·cases hi
  have get_d : ∀ {l : List S1079} {n : Nat} {x : S1079}, x ∈ l.drop n → ∃ i, n ≤ i ∧ l[i]? = some x := by
   intro l n x h;obtain ⟨i, hi⟩ := List.mem_iff_getElem?.1 h;rw [List.getElem?_drop] at hi;exact ⟨n + i, by omega, hi⟩
  rcases List.mem_append.1 hx with hx | hx <;> rcases List.mem_append.1 hy with hy | hy
  ·obtain ⟨i, hi, gi⟩ := get_t hx;obtain ⟨j, hj, gj⟩ := get_d hy;exact qfi w hX gi gj (by omega)
  ·obtain ⟨i, hi, gi⟩ := get_t hx;obtain ⟨j, hj, gj⟩ := get_d hy;have hjl := (List.getElem?_eq_some_iff.1 gj).1;have hil := (List.getElem?_eq_some_iff.1 gi).1
   have hus : s0 < u := by omega
   have h1 : X[u - 1]? = some X[u - 1] := List.getElem?_eq_getElem (by omega);have h2 : Y[hh - u]? = some Y[hh - u] := List.getElem?_eq_getElem (by omega);have h3 := i1 (u - 1) _ _ (by omega) (by omega) h1 (show Y[hh - 1 - (u - 1)]? = some Y[hh - u] by rw [show hh - 1 - (u - 1) = hh - u by omega]; exact h2);exact w.tr _ _ _ (w.tr _ _ _ (qfi w hX gi h1 (by omega)) h3) (qfi w hY h2 gj (by omega))
  ·obtain ⟨i, hi, gi⟩ := get_t hx;obtain ⟨j, hj, gj⟩ := get_d hy;have hjl := (List.getElem?_eq_some_iff.1 gj).1;have hil := (List.getElem?_eq_some_iff.1 gi).1
   have hur : u < r0 := by omega
   have h1 : X[u]? = some X[u] := List.getElem?_eq_getElem (by omega);have h2 : Y[hh - 1 - u]? = some Y[hh - 1 - u] := List.getElem?_eq_getElem (by omega);have h3 := i2 u _ _ (Nat.le_refl _) hur h1 h2;exact w.tr _ _ _ (w.tr _ _ _ (qfi w hY gi h2 (by omega)) (w.asy _ _ h3)) (qfi w hX h1 gj (by omega))
  ·obtain ⟨i, hi, gi⟩ := get_t hx;obtain ⟨j, hj, gj⟩ := get_d hy;exact qfi w hY gi gj (by omega)
end
variable {lt : S1079 → S1079 → Bool} {cmp : S1079 → S1079 → Option Int}
theorem qw9 (w : WOrd lt cmp) : ∀ (k : Nat) (X Y P Q : List S1079), 0 < X.length → 0 < Y.length → X.length + Y.length < k → Srt lt X → Srt lt Y → qw6 lt (fun l a m b => qa4 k l a m b cmp) X Y P Q
 | 0, X, Y, P, Q, _, _, hk, _, _ => by omega
 | k + 1, X, Y, P, Q, h1, h2, hk, hX, hY => by
  unfold qw6
  simp only
  by_cases c1 : X.length = 1
  ·obtain ⟨x, rfl⟩ := List.length_eq_one_iff.1 c1;obtain ⟨Z, q1, q2, q3⟩ := qzz w x Y P Q hY;refine ⟨Z, ?_, q2, q3⟩;rw [qa4, decide_eq_true (by simp; omega), cond_true, ← q1]
   congr 1
   ·simp; omega
   all_goals (simp)
  ·by_cases c2 : Y.length = 1
   ·obtain ⟨y, rfl⟩ := List.length_eq_one_iff.1 c2;obtain ⟨Z, q1, q2, q3⟩ := qw7 w y X P Q hX;refine ⟨Z, ?_, q2, q3⟩;rw [qa4, decide_eq_false (by omega), cond_false, decide_eq_true (by simp; omega), cond_true, ← q1]
    congr 1
    omega
   ·rw [qa4, decide_eq_false (by omega), cond_false, decide_eq_false (by omega), cond_false];have ih := fun X Y P Q h1 h2 hk hX hY => qw9 w k X Y P Q h1 h2 hk hX hY
    by_cases c3 : (X.length + Y.length) / 2 < X.length
    ·rw [decide_eq_true (by omega), cond_true];have := qw8 (self := fun z0_ z1_ z2_ z3_ z4_ => qa4 k z0_ z1_ z2_ z3_ z4_) (N := k) ih w X Y P Q hX hY (by omega) (by omega) (by omega) (a := (P.length : Int)) (m := (P.length : Int) + (X.length : Int)) (b := (P.length : Int) + (X.length : Int) + (Y.length : Int)) (s0 := (X.length + Y.length) / 2 - Y.length) (r0 := (X.length + Y.length) / 2) rfl rfl rfl (by omega) (by omega) (by omega) (by omega) (by omega) (by omega) ((((X.length + Y.length) / 2 : Nat) - ((X.length + Y.length) / 2 - Y.length) : Nat) + 1) (by omega);unfold qdw;rw [show ((P.length : Int) + ((P.length : Int) + (X.length : Int) + (Y.length : Int))) / 2 = (P.length : Int) + (((X.length + Y.length) / 2 : Nat) : Int) by omega];rw [show ((P.length : Int) + (((X.length + Y.length) / 2 : Nat) : Int)) + ((P.length : Int) + (X.length : Int)) - ((P.length : Int) + (X.length : Int) + (Y.length : Int)) = (P.length : Int) + (((X.length + Y.length) / 2 - Y.length : Nat) : Int) by omega];rw [show (((P.length : Int) + (((X.length + Y.length) / 2 : Nat) : Int)) - ((P.length : Int) + (((X.length + Y.length) / 2 - Y.length : Nat) : Int))).toNat + 1 = ((((X.length + Y.length) / 2 : Nat) - ((X.length + Y.length) / 2 - Y.length) : Nat) + 1) by omega];exact this
    ·rw [decide_eq_false (by omega), cond_false];have := qw8 (self := fun z0_ z1_ z2_ z3_ z4_ => qa4 k z0_ z1_ z2_ z3_ z4_) (N := k) ih w X Y P Q hX hY (by omega) (by omega) (by omega) (a := (P.length : Int)) (m := (P.length : Int) + (X.length : Int)) (b := (P.length : Int) + (X.length : Int) + (Y.length : Int)) (s0 := 0) (r0 := X.length) rfl rfl rfl (by omega) (by omega) (by omega) (by omega) (by omega) (by omega) (X.length + 1) (by omega);unfold qdw;rw [show ((P.length : Int) + (X.length : Int) - (P.length : Int)).toNat + 1 = X.length + 1 by omega];rw [show (P.length : Int) + ((0 : Nat) : Int) = (P.length : Int) by simp] at this;exact this
variable {lt : S1079 → S1079 → Bool} {cmp : S1079 → S1079 → Option Int}
theorem q09 (w : WOrd lt cmp) (rec1 : Int → List S1079 → Option (List S1079)) (x1 : Int) : ∀ (n : Nat) (A P R : List S1079) (y : S1079) (k : Nat), A.length = n → n < k → Srt lt A →
  ∃ Z, qas rec1 (P.length : Int) cmp x1 k ((P.length : Int) + (n : Int)) (P ++ A ++ y :: R) = rec1 (x1 + 1) (P ++ Z ++ R) ∧ Z.Perm (A ++ [y]) ∧ Srt lt Z
 | n, A, P, R, y, 0, _, hk, _ => by omega
 | 0, A, P, R, y, k + 1, hA, hk, hs => by
  obtain rfl := List.eq_nil_of_length_eq_zero hA;refine ⟨[y], ?_, by simp, List.pairwise_singleton _ _⟩;have e : decide ((P.length : Int) < (P.length : Int) + ((0 : Nat) : Int)) = false := decide_eq_false (by omega);rw [qas, e]
  simp [zf]
 | n + 1, A, P, R, y, k + 1, hA, hk, hs => by
  obtain ⟨A', z, rfl⟩ : ∃ A' z, A = A' ++ [z] := by
   rcases List.eq_nil_or_concat A with rfl | ⟨X', z, h⟩
   ·simp at hA
   ·exact ⟨X', z, by simpa using h⟩
  have hA' : A'.length = n := by simpa using hA
  have hs' := List.pairwise_append.1 hs
  have e1 : P ++ (A' ++ [z]) ++ y :: R = (P ++ A') ++ z :: (y :: R) := by simp
  have e2 : P ++ (A' ++ [z]) ++ y :: R = (P ++ A' ++ [z]) ++ y :: R := by simp
  have q1 : ((P.length : Int) + ((n + 1 : Nat) : Int)) - 1 = ((P ++ A').length : Int) := by first | (simp [hA']; done) | (simp [hA']; omega)
  have q2 : ((P.length : Int) + ((n + 1 : Nat) : Int)) = ((P ++ A' ++ [z]).length : Int) := by first | (simp [hA']; done) | (simp [hA']; omega)
  have i1 : ixO (P ++ (A' ++ [z]) ++ y :: R) (((P.length : Int) + ((n + 1 : Nat) : Int)) - 1) = some z := by rw [e1, xv _ _ _ q1]
  have i2 : ixO (P ++ (A' ++ [z]) ++ y :: R) ((P.length : Int) + ((n + 1 : Nat) : Int)) = some y := by rw [e2, xv _ _ _ q2]
  have e : decide ((P.length : Int) < (P.length : Int) + ((n + 1 : Nat) : Int)) = true := decide_eq_true (by omega);obtain ⟨v, hv, hd⟩ := w.c y z;rw [qas, e, cond_true, cond_true, i2];simp only [zf];rw [i1];simp only [zf, cond_true];rw [hv];simp only [zf];rw [hd, Bool.true_and]
  cases hl : lt y z with
  | true =>
   rw [cond_true]
   have s1 : List.set (P ++ (A' ++ [z]) ++ y :: R) (Int.toNat ((P.length : Int) + ((n + 1 : Nat) : Int))) z = (P ++ A' ++ [z]) ++ z :: R := by rw [e2, qeh _ _ _ _ q2]
   rw [s1]
   have e3 : (P ++ A' ++ [z]) ++ z :: R = (P ++ A') ++ z :: (z :: R) := by simp
   rw [e3, xv _ _ _ q1];simp only [];rw [qeh _ _ _ _ q1]
   have q3 : ((P.length : Int) + ((n + 1 : Nat) : Int)) - 1 = (P.length : Int) + (n : Int) := by omega
   rw [q3];obtain ⟨Z, g1, g2, g3⟩ := q09 w rec1 x1 n A' P (z :: R) y k hA' (by omega) hs'.1;refine ⟨Z ++ [z], ?_, ?_, ?_⟩
   ·rw [g1]; congr 1; simp
   ·refine (g2.append_right [z]).trans ?_;rw [List.append_assoc, List.append_assoc];exact List.Perm.append_left _ List.perm_append_comm
   ·refine List.pairwise_append.2 ⟨g3, List.pairwise_singleton _ _, fun a ha b hb => ?_⟩
    obtain rfl : b = z := by simpa using hb
    rcases List.mem_append.1 (g2.mem_iff.1 ha) with h | h
    ·exact hs'.2.2 a h b (by simp)
    ·obtain rfl : a = y := by simpa using h
     exact w.asy _ _ hl
  | false =>
   rw [cond_false];refine ⟨(A' ++ [z]) ++ [y], by congr 1; simp, List.Perm.refl _, List.pairwise_append.2 ⟨hs, List.pairwise_singleton _ _, fun a ha b hb => ?_⟩⟩
   obtain rfl : b = y := by simpa using hb
   rcases List.mem_append.1 ha with h | h
   ·exact w.tr _ _ _ (hs'.2.2 a h z (by simp)) hl
   ·obtain rfl : a = z := by simpa using h
    exact hl
theorem q1a (w : WOrd lt cmp) : ∀ (B A P Q : List S1079), 0 < A.length → Srt lt A → ∃ Z, xe (P.length : Int) cmp B.length ((P.length : Int) + (A.length : Int)) (P ++ A ++ B ++ Q) = some (P ++ Z ++ Q) ∧ Z.Perm (A ++ B) ∧ Srt lt Z
 | [], A, P, Q, hA, hs => ⟨A, by rw [List.length_nil, xe]; simp, by simp, hs⟩
 | y :: B, A, P, Q, hA, hs => by
  rw [List.length_cons, xe];obtain ⟨Z, g1, g2, g3⟩ := q09 w (fun z0_ z1_ => xe (P.length : Int) cmp B.length z0_ z1_) ((P.length : Int) + (A.length : Int)) A.length A P (B ++ Q) y ((((P.length : Int) + (A.length : Int)) - (P.length : Int)).toNat + 1) rfl (by omega) hs;rw [show P ++ A ++ (y :: B) ++ Q = P ++ A ++ y :: (B ++ Q) by simp, g1]
  have hl : Z.length = A.length + 1 := by rw [g2.length_eq]; simp
  obtain ⟨Z', k1, k2, k3⟩ := q1a w B Z P Q (by omega) g3;refine ⟨Z', ?_, ?_, k3⟩
  ·rw [show P ++ Z ++ (B ++ Q) = P ++ Z ++ B ++ Q by simp, show (P.length : Int) + (A.length : Int) + 1 = (P.length : Int) + (Z.length : Int) by omega];exact k1
  ·refine k2.trans ((g2.append_right B).trans ?_)
   simp
theorem q1b (w : WOrd lt cmp) (B P Q : List S1079) : ∃ Z, qpo (P ++ B ++ Q) (P.length : Int) ((P.length : Int) + (B.length : Int)) cmp = some (P ++ Z ++ Q) ∧ Z.Perm B ∧ Srt lt Z := by
 unfold qpo
 match B with
 | [] =>
  refine ⟨[], ?_, List.Perm.refl _, List.Pairwise.nil⟩;rw [show (((P.length : Int) + ((([] : List S1079).length : Nat) : Int)) - ((P.length : Int) + 1)).toNat = 0 by simp only [List.length_nil]; omega, xe]
 | y :: B =>
  obtain ⟨Z, g1, g2, g3⟩ := q1a w B [y] P Q (by simp) (List.pairwise_singleton _ _);refine ⟨Z, ?_, g2, g3⟩;rw [show (((P.length : Int) + (((y :: B).length : Nat) : Int)) - ((P.length : Int) + 1)).toNat = B.length by simp; omega];rw [show P ++ (y :: B) ++ Q = P ++ [y] ++ B ++ Q by simp];exact g1
variable {lt : S1079 → S1079 → Bool} {cmp : S1079 → S1079 → Option Int}
def Chk (lt : S1079 → S1079 → Bool) (bs : Nat) (Cs : List (List S1079)) : Prop := ∀ C ∈ Cs, C.length = bs ∧ Srt lt C
theorem qq6 {bs : Nat} : ∀ {Cs : List (List S1079)}, Chk lt bs Cs → Cs.flatten.length = Cs.length * bs
 | [], _ => by simp
 | C :: Cs, h => by
  rw [List.flatten_cons, List.length_append, qq6 (fun D hD => h D (List.mem_cons_of_mem _ hD)), (h C List.mem_cons_self).1, List.length_cons, Nat.succ_mul]; omega
theorem qxa (w : WOrd lt cmp) (rec2 : Int → List S1079 → Option (List S1079)) (n bs : Nat) (hbs : 0 < bs) (hn : n ≤ 30000) : ∀ (k : Nat) (Cs : List (List S1079)) (T D : List S1079), Chk lt bs Cs → Srt lt T → T.length < bs → (D ++ Cs.flatten ++ T).length = n → Cs.length < k →
  ∃ Ds T', wh rec2 (n : Int) cmp (bs : Int) k (D.length : Int) ((D.length : Int) + 2 * (bs : Int)) (D ++ Cs.flatten ++ T) = rec2 ((bs : Int) * 2) (D ++ Ds.flatten ++ T') ∧ Chk lt (2 * bs) Ds ∧ Srt lt T' ∧ T'.length < 2 * bs ∧ (Ds.flatten ++ T').Perm (Cs.flatten ++ T)
 | 0, Cs, T, D, _, _, _, _, hk => by omega
 | k + 1, [], T, D, hC, hT, hl, hlen, hk => by
  have hlen' : D.length + T.length = n := by simpa using hlen
  refine ⟨[], T, ?_, fun C hC => by simp at hC, hT, by omega, List.Perm.refl _⟩;rw [wh, decide_eq_false (by omega), cond_false, decide_eq_false (by omega), cond_false, qc0]
 | k + 1, [C], T, D, hC, hT, hl, hlen, hk => by
  have hc := hC C List.mem_cons_self
  have hlen' : D.length + C.length + T.length = n := by simp at hlen; omega
  rw [wh, decide_eq_false (by omega), cond_false]
  by_cases ht : 0 < T.length
  ·obtain ⟨Z, q1, q2, q3⟩ := qw9 w 30001 C T D [] (by omega) ht (by omega) hc.2 hT;have q1 : qa4 30001 (D ++ C ++ T ++ []) (D.length : Int) ((D.length : Int) + (C.length : Int)) ((D.length : Int) + (C.length : Int) + (T.length : Int)) cmp = some (D ++ Z ++ []) := q1;rw [List.append_nil, List.append_nil, hc.1, show (D.length : Int) + (bs : Int) + (T.length : Int) = (n : Int) by omega] at q1;refine ⟨[], Z, ?_, fun C hC => by simp at hC, q3, by rw [q2.length_eq, List.length_append]; omega, by simpa using q2⟩;rw [decide_eq_true (by omega), cond_true, show D ++ [C].flatten ++ T = D ++ C ++ T by simp, q1];simp only [zf, qc0]
   simp
  ·have : T = [] := List.eq_nil_of_length_eq_zero (by omega);subst this;refine ⟨[], C, ?_, fun C hC => by simp at hC, hc.2, by omega, by simp⟩;rw [decide_eq_false (by simp at hlen'; omega), cond_false, qc0]
   simp
 | k + 1, C1 :: C2 :: Cs, T, D, hC, hT, hl, hlen, hk => by
  have h1 := hC C1 List.mem_cons_self;have h2 := hC C2 (List.mem_cons_of_mem _ List.mem_cons_self);have hC' : Chk lt bs Cs := fun E hE => hC E (List.mem_cons_of_mem _ (List.mem_cons_of_mem _ hE))
  have hlen' : D.length + C1.length + C2.length + (Cs.flatten ++ T).length = n := by simp at hlen ⊢; omega
  obtain ⟨Z, q1, q2, q3⟩ := qw9 w 30001 C1 C2 D (Cs.flatten ++ T) (by omega) (by omega) (by omega) h1.2 h2.2;have q1 : qa4 30001 (D ++ C1 ++ C2 ++ (Cs.flatten ++ T)) (D.length : Int) ((D.length : Int) + (C1.length : Int)) ((D.length : Int) + (C1.length : Int) + (C2.length : Int)) cmp = some (D ++ Z ++ (Cs.flatten ++ T)) := q1
  have hz : Z.length = 2 * bs := by rw [q2.length_eq, List.length_append]; omega
  rw [h1.1, h2.1, show (D.length : Int) + (bs : Int) + (bs : Int) = (D.length : Int) + 2 * (bs : Int) by omega] at q1;obtain ⟨Ds, T', e1, e2, e3, e4, e5⟩ := qxa w rec2 n bs hbs hn k Cs T (D ++ Z) hC' hT hl (by simp at hlen' ⊢; omega) (by simp at hk ⊢; omega);refine ⟨Z :: Ds, T', ?_, fun E hE => ?_, e3, e4, ?_⟩
  ·rw [wh, decide_eq_true (by omega), cond_true, show D ++ (C1 :: C2 :: Cs).flatten ++ T = D ++ C1 ++ C2 ++ (Cs.flatten ++ T) by simp, q1];simp only [zf];rw [show (D.length : Int) + 2 * (bs : Int) = ((D ++ Z).length : Int) by simp [hz], show D ++ Z ++ (Cs.flatten ++ T) = D ++ Z ++ Cs.flatten ++ T by simp, e1]
   simp
  ·rcases List.mem_cons.1 hE with rfl | hE
   ·exact ⟨hz, q3⟩
   ·exact e2 E hE
  ·rw [List.flatten_cons, List.flatten_cons, List.flatten_cons];have := (q2.append e5)
   simpa [List.append_assoc] using this
variable {lt : S1079 → S1079 → Bool} {cmp : S1079 → S1079 → Option Int}
theorem q3o (w : WOrd lt cmp) (n : Nat) (hn : n ≤ 30000) : ∀ (k bs : Nat) (Cs : List (List S1079)) (T : List S1079), 0 < bs → Chk lt bs Cs → Srt lt T → T.length < bs → (Cs.flatten ++ T).length = n → n ≤ bs + k →
  ∃ Z, vk (n : Int) cmp (k + 1) (bs : Int) (Cs.flatten ++ T) = some Z ∧ Z.Perm (Cs.flatten ++ T) ∧ Srt lt Z := by
 intro k
 induction k with
 | zero =>
  intro bs Cs T hb hC hT hl hlen hk;have hcl := qq6 hC
  have hlen' : Cs.length * bs + T.length = n := by rw [← hcl]; simpa using hlen
  rw [vk, decide_eq_false (by omega), cond_false]
  match Cs, hC, hlen' with
  | [], _, _ => exact ⟨_, rfl, List.Perm.refl _, by simpa using hT⟩
  | [C], hC, hlen' =>
   have : T = [] := List.eq_nil_of_length_eq_zero (by simp at hlen'; omega);subst this;exact ⟨_, rfl, List.Perm.refl _, by simpa using (hC C List.mem_cons_self).2⟩
  | C1 :: C2 :: Cs, hC, hlen' =>
   exfalso
   simp only [List.length_cons, Nat.succ_mul] at hlen'
   omega
 | succ k ih =>
  intro bs Cs T hb hC hT hl hlen hk;have hcl := qq6 hC
  have hlen' : Cs.length * bs + T.length = n := by rw [← hcl]; simpa using hlen
  by_cases hlt : bs < n
  ·rw [vk, decide_eq_true (by omega), cond_true]
   have hcn : Cs.length ≤ n := by
    have := Nat.le_mul_of_pos_right Cs.length hb
    omega
   obtain ⟨Ds, T', e1, e2, e3, e4, e5⟩ := qxa w (fun z0_ z1_ => vk (n : Int) cmp (k + 1) z0_ z1_) n bs hb hn (n + 1) Cs T [] hC hT hl (by simpa using hlen) (by omega)
   have e1 : wh (fun z0_ z1_ => vk (n : Int) cmp (k + 1) z0_ z1_) (n : Int) cmp (bs : Int) (n + 1) 0 (2 * (bs : Int)) (Cs.flatten ++ T) = vk (n : Int) cmp (k + 1) ((bs : Int) * 2) (Ds.flatten ++ T') := by simpa using e1
   rw [show ((n : Int) + 2 * (bs : Int) - (2 * (bs : Int))).toNat + 1 = n + 1 by omega, e1];obtain ⟨Z, f1, f2, f3⟩ := ih (2 * bs) Ds T' (by omega) e2 e3 e4 (by rw [e5.length_eq]; exact hlen) (by omega);refine ⟨Z, ?_, f2.trans e5, f3⟩;rw [show (bs : Int) * 2 = ((2 * bs : Nat) : Int) by omega];exact f1
  ·rw [vk, decide_eq_false (by omega), cond_false]
   match Cs, hC, hlen' with
   | [], _, _ => exact ⟨_, rfl, List.Perm.refl _, by simpa using hT⟩
   | [C], hC, hlen' =>
    have : T = [] := List.eq_nil_of_length_eq_zero (by simp at hlen'; omega);subst this;exact ⟨_, rfl, List.Perm.refl _, by simpa using (hC C List.mem_cons_self).2⟩
   | C1 :: C2 :: Cs, hC, hlen' =>
    exfalso
    simp only [List.length_cons, Nat.succ_mul] at hlen'
    omega
theorem qxb (w : WOrd lt cmp) (n : Nat) (hn : n ≤ 30000) : ∀ (k : Nat) (Cs : List (List S1079)) (R : List S1079), Chk lt 20 Cs → (Cs.flatten ++ R).length = n → R.length < k →
  ∃ Z, qat (n : Int) cmp k (Cs.flatten.length : Int) ((Cs.flatten.length : Int) + 20) (Cs.flatten ++ R) = some Z ∧ Z.Perm (Cs.flatten ++ R) ∧ Srt lt Z
 | 0, Cs, R, _, _, hk => by omega
 | k + 1, Cs, R, hC, hlen, hk => by
  have hlen' : Cs.flatten.length + R.length = n := by simpa using hlen
  rw [qat]
  by_cases h20 : 20 ≤ R.length
  ·rw [decide_eq_true (by omega), cond_true];obtain ⟨B, R', rfl, hB⟩ : ∃ B R', R = B ++ R' ∧ B.length = 20 := ⟨R.take 20, R.drop 20, (List.take_append_drop ..).symm, by rw [List.length_take]; omega⟩;obtain ⟨Z, q1, q2, q3⟩ := q1b w B Cs.flatten R';rw [hB] at q1
   have q1 : qpo (Cs.flatten ++ (B ++ R')) (Cs.flatten.length : Int) ((Cs.flatten.length : Int) + 20) cmp = some (Cs.flatten ++ Z ++ R') := by rw [← List.append_assoc]; exact q1
   rw [q1];simp only [zf]
   have hz : Z.length = 20 := by rw [q2.length_eq]; exact hB
   have hC2 : Chk lt 20 (Cs ++ [Z]) := fun D hD => by
    rcases List.mem_append.1 hD with h | h
    ·exact hC D h
    ·obtain rfl : D = Z := by simpa using h
     exact ⟨hz, q3⟩
   have hfl : (Cs ++ [Z]).flatten = Cs.flatten ++ Z := by simp
   obtain ⟨W, f1, f2, f3⟩ := qxb w n hn k (Cs ++ [Z]) R' hC2 (by rw [hfl]; simp only [List.length_append] at hlen' ⊢; omega) (by simp at hk; omega);rw [hfl] at f1 f2;refine ⟨W, ?_, f2.trans ?_, f3⟩
   ·rw [show (Cs.flatten.length : Int) + 20 = ((Cs.flatten ++ Z).length : Int) by rw [List.length_append, hz]; omega];exact f1
   ·rw [List.append_assoc];exact List.Perm.append_left _ (q2.append_right R')
  ·rw [decide_eq_false (by omega), cond_false];obtain ⟨Z, q1, q2, q3⟩ := q1b w R Cs.flatten [];rw [List.append_nil, List.append_nil, show (Cs.flatten.length : Int) + (R.length : Int) = (n : Int) by omega] at q1;rw [q1];simp only [zf];obtain ⟨W, f1, f2, f3⟩ := q3o w n hn (n - 20) 20 Cs Z (by omega) hC q3 (by rw [q2.length_eq]; omega) (by rw [List.length_append, q2.length_eq]; exact hlen') (by omega);refine ⟨W, ?_, f2.trans (List.Perm.append_left _ q2), f3⟩;rw [show ((n : Int) - 20).toNat + 1 = (n - 20) + 1 by omega];exact f1
theorem q3p (w : WOrd lt cmp) (l : List S1079) (hn : l.length ≤ 30000) : ∃ Z, qq7 l cmp = some Z ∧ Z.Perm l ∧ Srt lt Z := by
 obtain ⟨Z, q1, q2, q3⟩ := qxb w l.length hn (l.length + 1) [] l (fun C hC => by simp at hC) (by simp) (by omega);refine ⟨Z, ?_, by simpa using q2, q3⟩;unfold qq7 qxc;rw [show (((l.length : Int) + 20 - 20).toNat + 1) = l.length + 1 by omega]
 have q1 : qat (l.length : Int) cmp (l.length + 1) 0 20 l = some Z := by simpa using q1
 rw [q1]; rfl
theorem q1c : ∀ x : List UInt8, Op.bytesLess x x = false
 | [] => rfl
 | a :: x => by simp [Op.bytesLess, q1c x]
theorem q6o : ∀ x y z : List UInt8, Op.bytesLess x y = true → Op.bytesLess y z = true → Op.bytesLess x z = true
 | _, _, [], _, h => by cases ‹List UInt8› <;> simp [Op.bytesLess] at h
 | _, [], _ :: _, h, _ => by cases ‹List UInt8› <;> simp [Op.bytesLess] at h
 | [], _ :: _, _ :: _, _, _ => rfl
 | a :: x, b :: y, c :: z, h, k => by
  simp only [Op.bytesLess, Bool.or_eq_true, decide_eq_true_eq, Bool.and_eq_true, beq_iff_eq] at h k ⊢
  rcases h with h | ⟨rfl, h⟩
  ·rcases k with k | ⟨rfl, k⟩
   ·exact .inl (UInt8.lt_trans h k)
   ·exact .inl h
  ·rcases k with k | ⟨rfl, k⟩
   ·exact .inl k
   ·exact .inr ⟨rfl, q6o x y z h k⟩
theorem q1d : ∀ x y : List UInt8, Op.bytesLess x y = false → Op.bytesLess y x = false → x = y
 | [], [], _, _ => rfl
 | [], _ :: _, h, _ => by simp [Op.bytesLess] at h
 | _ :: _, [], _, h => by simp [Op.bytesLess] at h
 | a :: x, b :: y, h, k => by
  simp only [Op.bytesLess, Bool.or_eq_false_iff, decide_eq_false_iff_not, Bool.and_eq_false_iff, beq_eq_false_iff_ne] at h k;have e : a = b := UInt8.le_antisymm (UInt8.not_lt.1 k.1) (UInt8.not_lt.1 h.1);subst e;rw [q1d x y (h.2.resolve_left fun g => g rfl) (k.2.resolve_left fun g => g rfl)]
theorem qrg (a : ByteArray) : qay a a = false := q1c _
theorem qyb {a b c : ByteArray} (h : qay a b = true) (k : qay b c = true) : qay a c = true := q6o _ _ _ h k
theorem q1e {a b : ByteArray} (h : qay a b = false) (k : qay b a = false) : a = b := by
 have := q1d _ _ h k;have e := toList_inj (s := a) (s' := b);rw [this] at e
 simpa using e.symm
theorem q8a {a b : ByteArray} (h : qay a b = true) (k : qay b a = true) : False := by
 have := qyb h k;rw [qrg] at this; cases this
theorem qp7 (a b : ByteArray) : s133 a b = bif qay a b then -1 else bif decide (a = b) then 0 else 1 := by
 have h : ∀ x, s183 x = false := fun x => by unfold s183; simp
 unfold s133;rw [h, h]
 cases h1 : qay a b
 ·by_cases h2 : a = b <;> simp [h2]
 ·rfl
def LtM (x y : S1079) : Prop := x.Moment < y.Moment ∨ (x.Moment = y.Moment ∧ (qay x.Kind y.Kind = true ∨ (x.Kind = y.Kind ∧ qay x.Name y.Name = true)))
def ltM (x y : S1079) : Bool := decide (qnw x y < 0)
theorem qus (a b : Int) : s167 a b = bif decide (a < b) then -1 else bif decide (b < a) then 1 else 0 := by
 have h : ∀ x, s202 x = false := fun x => by unfold s202; simp
 unfold s167;rw [h, h]; rfl
theorem q6p (a b c : Int) : s176 [a, b, c] = bif decide (a ≠ 0) then a else bif decide (b ≠ 0) then b else bif decide (c ≠ 0) then c else 0 := rfl
theorem qfv (x y : S1079) : ltM x y = true ↔ LtM x y := by
 unfold ltM LtM qnw;rw [decide_eq_true_iff, q6p, qus, qp7, qp7]
 by_cases h1 : x.Moment < y.Moment
 ·simp [h1]
 ·by_cases h2 : y.Moment < x.Moment
  ·have : ¬ x.Moment = y.Moment := by omega
   simp [h1, h2, this]
  ·have h3 : x.Moment = y.Moment := by omega
   simp only [h1, h2, h3, decide_false, cond_false, true_and, false_or]
   cases hk : qay x.Kind y.Kind with
   | true => simp
   | false =>
    by_cases hke : x.Kind = y.Kind
    ·simp only [hke, decide_true, cond_true, cond_false]
     cases hn : qay x.Name y.Name with
     | true => simp
     | false =>
      by_cases hne : x.Name = y.Name
      ·simp [hne]
      ·simp [hne]
    ·simp [hke]
theorem LtM.tr {x y z : S1079} (h : LtM x y) (k : LtM y z) : LtM x z := by
 rcases h with h | ⟨h1, h⟩ <;> rcases k with k | ⟨k1, k⟩
 ·exact .inl (by omega)
 ·exact .inl (by omega)
 ·exact .inl (by omega)
 ·refine .inr ⟨by omega, ?_⟩
  rcases h with h | ⟨h2, h⟩ <;> rcases k with k | ⟨k2, k⟩
  ·exact .inl (qyb h k)
  ·exact .inl (by rw [← k2]; exact h)
  ·exact .inl (by rw [h2]; exact k)
  ·exact .inr ⟨h2.trans k2, qyb h k⟩
theorem LtM.irr (x : S1079) : ¬ LtM x x := by
 rintro (h | ⟨_, h | ⟨_, h⟩⟩)
 ·omega
 ·rw [qrg] at h; cases h
 ·rw [qrg] at h; cases h
theorem LtM.tri (x y : S1079) : LtM x y ∨ LtM y x ∨ (x.Moment = y.Moment ∧ x.Kind = y.Kind ∧ x.Name = y.Name) := by
 by_cases h1 : x.Moment < y.Moment
 ·exact .inl (.inl h1)
 ·by_cases h2 : y.Moment < x.Moment
  ·exact .inr (.inl (.inl h2))
  ·have h3 : x.Moment = y.Moment := by omega
   cases hk : qay x.Kind y.Kind with
   | true => exact .inl (.inr ⟨h3, .inl hk⟩)
   | false =>
    cases hk2 : qay y.Kind x.Kind with
    | true => exact .inr (.inl (.inr ⟨h3.symm, .inl hk2⟩))
    | false =>
     have hke := q1e hk hk2
     cases hn : qay x.Name y.Name with
     | true => exact .inl (.inr ⟨h3, .inr ⟨hke, hn⟩⟩)
     | false =>
      cases hn2 : qay y.Name x.Name with
      | true => exact .inr (.inl (.inr ⟨h3.symm, .inr ⟨hke.symm, hn2⟩⟩))
      | false => exact .inr (.inr ⟨h3, hke, q1e hn hn2⟩)
theorem q9x : WOrd ltM (fun x y => some (qnw x y)) where
 c := fun x y => ⟨_, rfl, rfl⟩
 asy := fun x y h => by
  cases hc : ltM y x with
  | false => rfl
  | true => exact absurd (((qfv x y).1 h).tr ((qfv y x).1 hc)) (LtM.irr x)
 tr := fun x y z h1 h2 => by
  cases hc : ltM z x with
  | false => rfl
  | true =>
   have hz := (qfv z x).1 hc
   rcases LtM.tri x y with h | h | ⟨e1, e2, e3⟩
   ·rw [(qfv z y).2 (hz.tr h)] at h2; cases h2
   ·rw [(qfv y x).2 h] at h1; cases h1
   ·have : LtM z y := by unfold LtM at hz ⊢; rw [← e1, ← e2, ← e3]; exact hz
    rw [(qfv z y).2 this] at h2; cases h2
theorem qyi {a b : List S1079} (ha : qbk a = some 0) (hb : qbk b = some 0) (hl : a.length + b.length ≤ 30000) : ∃ Z, qf7 a b = some (Z, 0) ∧ Z.Perm (a ++ b) ∧ Srt ltM Z ∧ qbk Z = some 0 := by
 obtain ⟨Z, q1, q2, q3⟩ := q3p q9x (a ++ b) (by rw [List.length_append]; exact hl)
 have hz : Z.length ≤ 30000 := by rw [q2.length_eq, List.length_append]; exact hl
 refine ⟨Z, ?_, q2, q3, ?_⟩
 ·unfold qf7;rw [ha, hb];simp only [zf]
  have h0 : vx [0, 0, (xa (decide (30000 < IntKind.i64.wrap ((List.length a : Int) + (List.length b : Int)))) 5)] = 0 := by
   refine ko.2 fun x hx => ?_;simp only [List.mem_cons, List.not_mem_nil, or_false] at hx
   rcases hx with rfl | rfl | rfl
   ·rfl
   ·rfl
   ·refine (xg (by decide)).2 (decide_eq_false ?_);rw [wrap_i64 (by unfold I64; omega)]; omega
  rw [h0, decide_eq_false (by simp), cond_false, q1]
 ·refine (qf6 hz).2 ⟨fun m hm => ?_, ?_⟩
  ·have := q2.mem_iff.1 hm
   rcases List.mem_append.1 this with h | h
   ·exact ((qf6 (by omega)).1 ha).1 m h
   ·exact ((qf6 (by omega)).1 hb).1 m h
  ·refine List.pairwise_map.2 (q3.imp fun {x y} h => ?_)
   by_cases hlt : y.Moment < x.Moment
   ·rw [(qfv y x).2 (.inl hlt)] at h; cases h
   ·omega
end Go.Sim
set_option maxRecDepth 10000
namespace Go.Sim
theorem qsc : ∀ {l : List Int} (k : Nat), qcc l k = 0 ↔ ∀ x ∈ l, x = 0
 | [], k => by simp [qcc]
 | y :: t, k => by
  rw [qcc]
  by_cases h : y = 0
  ·subst h; simp [qsc (l := t) (k + 1)]
  ·simp [h]
theorem vv {l : List Int} : ve l = 0 ↔ ∀ x ∈ l, x = 0 := qsc 0
theorem q9y {r : S115} (h : qcp r = 0) : s102 r.Period = 0 ∧ 0 ≤ r.Minute ∧ r.Minute ≤ 1439 := by
 unfold qcp at h;have h := ko.1 h;have h1 := h (s102 r.Period) (by simp);have h2 := h (qbi r.Minute 0 (1440 - 1)) (by simp);exact ⟨h1, by have := qdl.1 h2; omega⟩
theorem qvd {a0 : List S2062} {a1 : List S1079} {a2 : S115} (h0 : wm a0 = 0) (h1 : qbk a1 = some 0) (h2 : qcp a2 = 0) : qqi a0 a1 a2 = some (!inI a2.Minute (ivs a1 a2 a0)) := by
 obtain ⟨l1, l2⟩ := qqn h0;obtain ⟨hp, m0, m1⟩ := q9y h2;obtain ⟨F, g1, g2, g3⟩ := q3n (a1 := a1) (show a0.length ≤ 1000 by omega) l2 hp
 have hz : vx [vx [wm a0, 0], qcp a2] = 0 := ko.2 fun x hx => by
  simp only [List.mem_cons, List.not_mem_nil, or_false] at hx
  rcases hx with rfl | rfl
  ·exact ko.2 fun y hy => by
    simp only [List.mem_cons, List.not_mem_nil, or_false] at hy
    rcases hy with rfl | rfl
    ·exact h0
    ·rfl
  ·exact h2
 unfold qqi qz0 qi0;rw [h1];simp only [zf];rw [hz, decide_eq_false (by simp), cond_false, g1];simp only [zf];unfold qz1
 have : ixO F a2.Minute = some (inI a2.Minute (ivs a1 a2 a0)) := by
  unfold ixO;rw [decide_eq_true m0, cond_true];have := g3 a2.Minute.toNat (by omega)
  rwa [Int.toNat_of_nonneg m0] at this
 rw [this]
 simp [zf]
def qd6 (x : S115) : S5100 := S5100.mk x x.Carrier [] []
theorem qm0 {a0 : List S2062} {a1 : S5042} {a2 : S115} {ms : List S1079} (h0 : wm a0 = 0) (h1 : qmt a1 = some 0) (h2 : qdd a2 = 0) (h3 : qfn a1 a2.Name = false) (h3' : a1.Slots.length < 64) (h4 : qc3 a1 (-1) = some ms) (h5 : qbk ms = some 0) (h6 : qcp a2 = 0)
  (h7 : ∀ x ∈ a1.Slots, x.Leases.length ≤ 1000000 ∧ x.Shares.length ≤ 1000000) : qha a0 a1 a2 = some (bif inI a2.Minute (ivs ms a2 a0) then (S5042.mk [] [], 14) else (S5042.mk (a1.Slots ++ [qd6 a2]) a1.Waiting, 0)) := by
 unfold qha;rw [h1];simp only [zf]
 have hz : ve [wm a0, 0] = 0 := vv.2 fun y hy => by
  simp only [List.mem_cons, List.not_mem_nil, or_false] at hy
  rcases hy with rfl | rfl
  ·exact h0
  ·rfl
 rw [hz, decide_eq_false (by simp), cond_false];unfold qvh
 have hz2 : ve [(qdd a2), (j8 (qfn a1 a2.Name) 9), (j8 (decide (64 ≤ (List.length a1.Slots : Int))) 5)] = 0 := vv.2 fun y hy => by
  simp only [List.mem_cons, List.not_mem_nil, or_false] at hy
  rcases hy with rfl | rfl | rfl
  ·exact h2
  ·rw [h3]; rfl
  ·rw [decide_eq_false (by omega)]; rfl
 rw [hz2, decide_eq_false (by simp), cond_false, h4];simp only [zf];rw [qvd h0 h5 h6];simp only [zf, Bool.not_not]
 cases inI a2.Minute (ivs ms a2 a0) with
 | true => rfl
 | false =>
  rw [cond_false, qlt h7]
  rfl
end Go.Sim
set_option maxRecDepth 100000
namespace Go.Sim
def mL : List S2062 := [S2062.mk ⟨#[104, 111, 117, 114]⟩ ⟨#[84]⟩ ⟨#[]⟩ 60 60 0 0 (S45.mk 10 20 127) 2]
def mX : S115 := S115.mk ⟨#[112]⟩ ⟨#[97, 98]⟩ ⟨#[65]⟩ ⟨#[]⟩ ⟨#[102, 97, 114]⟩ ⟨#[]⟩ (S45.mk 10 13 127) 5 0 1 0
def mY : S115 := S115.mk ⟨#[113]⟩ ⟨#[99, 100]⟩ ⟨#[65]⟩ ⟨#[]⟩ ⟨#[102, 97, 114]⟩ ⟨#[]⟩ (S45.mk 10 13 127) 5 0 1 0
def mY' : S115 := S115.mk ⟨#[113]⟩ ⟨#[99, 100]⟩ ⟨#[65]⟩ ⟨#[]⟩ ⟨#[102, 97, 114]⟩ ⟨#[]⟩ (S45.mk 10 11 127) 5 0 1 0
def mB1 : S5042 := S5042.mk [qd6 mX] []
def mB2 : S5042 := S5042.mk [qd6 mX, qd6 mY] []
def mB3 : S5042 := S5042.mk [qd6 mX, S5100.mk mY' ⟨#[99, 100]⟩ [] []] []
def mM (d : Int) (n : UInt8) : S1079 := S1079.mk (1440 * d + 5) ⟨#[65]⟩ ⟨#[]⟩ 0 1 0 ⟨#[n]⟩
theorem mk1 : qha mL ⟨[], []⟩ mX = some (mB1, 0) := by
 rw [qm0 (ms := []) (by kernel_rfl) (by kernel_rfl) (by kernel_rfl) (by kernel_rfl) (by decide) (by kernel_rfl) (by kernel_rfl) (by kernel_rfl) (fun x h => by cases h)];rw [show inI mX.Minute (ivs [] mX mL) = false by kernel_rfl]
 rfl
theorem mv1 : qc3 mB1 (-1) = some [mM 10 112, mM 11 112, mM 12 112, mM 13 112] := by kernel_rfl
theorem mk2 : qha mL mB1 mY = some (mB2, 0) := by
 rw [qm0 (by kernel_rfl) (by kernel_rfl) (by kernel_rfl) (by kernel_rfl) (by decide) mv1 (by kernel_rfl) (by kernel_rfl) (fun x h => by
  have : x = qd6 mX := List.mem_singleton.1 h
  subst this; exact ⟨by decide, by decide⟩)]
 rw [show inI mY.Minute (ivs [mM 10 112, mM 11 112, mM 12 112, mM 13 112] mY mL) = false by kernel_rfl]
 rfl
end Go.Sim
set_option maxRecDepth 100000
namespace Go.Sim
def mS3 : List S1079 := [mM 10 112, mM 10 113, mM 11 112, mM 11 113, mM 12 112, mM 13 112]
theorem mk3 : qzw mB2 ⟨#[99, 100]⟩ ⟨#[113]⟩ 12 = some (mB3, 0) := by kernel_rfl
theorem mk4 : qlc mB3 = some (mS3, 0) := by kernel_rfl
theorem mk5 : qt3 mL mS3 (S1079.mk 15845 ⟨#[65]⟩ ⟨#[]⟩ 0 0 0 ⟨#[122]⟩) = some (0, 0) := by kernel_rfl
theorem mk6 : qt3 mL mS3 (S1079.mk 17285 ⟨#[65]⟩ ⟨#[]⟩ 0 0 0 ⟨#[122]⟩) = some (1, 0) := by kernel_rfl
theorem mq0 (r : List S1079) (h : qc3 (S5042.mk [] []) (-1) = some r) : r.length ≤ 1000 := by cases h; decide
theorem mq1 (r : List S1079) (h : qc3 mB1 (-1) = some r) : r.length ≤ 1000 := by rw [mv1] at h; cases h; decide
end Go.Sim
set_option maxRecDepth 10000
namespace Go.Sim
open Go.Proofs
def qz2  : Option Bool :=
 zf (qha [(S2062.mk (⟨#[104, 111, 117, 114]⟩) (⟨#[84]⟩) ByteArray.empty 60 60 0 0 (S45.mk 10 20 127) 2)] (S5042.mk [] []) (S115.mk (⟨#[112]⟩) (⟨#[97, 98]⟩) (⟨#[65]⟩) ByteArray.empty (⟨#[102, 97, 114]⟩) ByteArray.empty (S45.mk 10 13 127) 5 0 1 0)) fun r1 => zf (qha [(S2062.mk (⟨#[104, 111, 117, 114]⟩) (⟨#[84]⟩) ByteArray.empty 60 60 0 0 (S45.mk 10 20 127) 2)] r1.1 (S115.mk (⟨#[113]⟩) (⟨#[99, 100]⟩) (⟨#[65]⟩) ByteArray.empty (⟨#[102, 97, 114]⟩) ByteArray.empty (S45.mk 10 13 127) 5 0 1 0)) fun r2 => zf (qzw r2.1 (⟨#[99, 100]⟩) (⟨#[113]⟩) 12) fun r3 => zf (qlc r3.1) fun r4 => zf (qt3 [(S2062.mk (⟨#[104, 111, 117, 114]⟩) (⟨#[84]⟩) ByteArray.empty 60 60 0 0 (S45.mk 10 20 127) 2)] r4.1 (S1079.mk 15845 (⟨#[65]⟩) ByteArray.empty 0 0 0 (⟨#[122]⟩))) fun r5 => zf (qt3 [(S2062.mk (⟨#[104, 111, 117, 114]⟩) (⟨#[84]⟩) ByteArray.empty 60 60 0 0 (S45.mk 10 20 127) 2)] r4.1 (S1079.mk 17285 (⟨#[65]⟩) ByteArray.empty 0 0 0 (⟨#[122]⟩))) fun r6 => some (((decide (IntKind.i64.wrap ((IntKind.i64.wrap ((IntKind.i64.wrap ((IntKind.i64.wrap ((IntKind.i64.wrap (r1.2 + r2.2)) + r3.2)) + r4.2)) + r5.2)) + r6.2) = 0)) && (decide (r5.1 = 0))) && (decide (r6.1 = 1)))
set_option maxHeartbeats 16000000 in
theorem q9z {g : GL}  {R : Bool}   (hR : qz2  = some R) : Con (EG g) 7 [] (G.bool R) := by
 unfold qz2 at hR;refine qm Tryz.func7 rfl rfl fun w0 M0 => ?_;refine qb ?_;refine qa [.p] ?_;refine sa rfl rfl ?_;refine qc ?_;refine qb ?_;refine qa [.p, .p, .p, .p] ?_;refine su (jg rfl z46 rfl pl46 (zz rfl (zz rfl (zz rfl kx))) rfl) rfl ?_;refine su (jg rfl qwo rfl q6q (zz rfl (zz rfl (zz rfl (zz rfl (zz rfl (zz rfl kx)))))) rfl) rfl ?_;refine su (qv rfl Tryz.underlying22 kz qwo rfl (qw rfl jo) rfl (by exact lens rfl) (by decide)) rfl ?_;refine sa rfl rfl ?_;refine qc ?_;refine qb ?_;refine qa [.p, .p, .w, .w] ?_;refine su (jg rfl z46 rfl pl46 (zz rfl (zz rfl (zz rfl kx))) rfl) rfl ?_;refine su (jg rfl z116 rfl q90 (zz rfl (zz rfl (zz rfl (zz rfl (zz rfl (zz rfl (zz rfl kx))))))) rfl) rfl ?_;refine sw (zc 2 rfl z116 rfl rfl) rfl ?_;refine jb rfl rfl (qu (tv := .g (G.agg [G.str (⟨#[112]⟩), G.str (⟨#[97, 98]⟩), G.str (⟨#[65]⟩), G.str ByteArray.empty, G.str (⟨#[102, 97, 114]⟩), G.str ByteArray.empty, G.int 10, G.int 13, G.int 127, G.int 5, G.int 0, G.int 1, G.int 0])) rfl wo rfl rfl rfl rfl rfl) ?_;refine qc ?_;refine qb ?_;refine qa [.r, .w, .w] ?_;refine sr (zm rfl wo rfl rfl rfl rfl) rfl ?_;refine sw (zc 3 rfl z116 rfl rfl) rfl ?_;refine jb rfl rfl (qu (tv := .g (G.agg [G.str (⟨#[112]⟩), G.str (⟨#[97, 98]⟩), G.str (⟨#[65]⟩), G.str ByteArray.empty, G.str (⟨#[102, 97, 114]⟩), G.str ByteArray.empty, G.int 10, G.int 13, G.int 127, G.int 5, G.int 0, G.int 1, G.int 0])) rfl wo rfl rfl rfl rfl rfl) ?_;refine qc ?_;refine qb ?_;refine qa [.p, .w, .p, .w] ?_;refine su (qy rfl kr rfl) rfl ?_;refine jb rfl rfl (qu (tv := .g (G.str (⟨#[113]⟩))) rfl ty9 rfl rfl rfl rfl rfl) ?_;refine su (qy rfl qh3 rfl) rfl ?_;refine jb rfl rfl (qu (tv := .g (G.str (⟨#[99, 100]⟩))) rfl ty9 rfl rfl rfl rfl rfl) ?_;refine qc ?_;refine qb ?_;obtain ⟨r1, br1, hR⟩ := qi hR;have q0 := mq0;refine qa [.p, .p, .r, .p, .p, .p, .p, .w, .w, .p] ?_;refine sm rfl rfl ?_;refine su (qcr (x := G.agg [G.lit (.slice none 0 0), G.lit (.slice none 0 0)]) (y := G.agg [G.sl 16 (List.map S5100.c []), G.sl 14 (List.map S5072.c [])]) (jg rfl wn rfl qd1 kx rfl) (qc4 ⟨xk 16, xk 14, trivial⟩)) rfl ?_;refine sr (zm rfl wo rfl rfl rfl rfl) rfl ?_;refine su (qf rfl q2k rfl (q2l [(S2062.mk (⟨#[104, 111, 117, 114]⟩) (⟨#[84]⟩) ByteArray.empty 60 60 0 0 (S45.mk 10 20 127) 2)] (S5042.mk [] []) (S115.mk (⟨#[112]⟩) (⟨#[97, 98]⟩) (⟨#[65]⟩) ByteArray.empty (⟨#[102, 97, 114]⟩) ByteArray.empty (S45.mk 10 13 127) 5 0 1 0) (by first | assumption | omega | (simp [qh]; done) | (simp [qh]; omega)) (by first | assumption | omega | (simp [qh]; done) | (simp [qh]; omega)) (by first | assumption | omega | (simp [qh]; done) | (simp [qh]; omega)) br1) (qe rfl (qe rfl (qe rfl qj)))) rfl ?_;refine sm rfl rfl ?_;refine su (qt rfl rfl rfl) rfl ?_;refine su (qt rfl rfl rfl) rfl ?_;refine sw (zc 4 rfl wn rfl rfl) rfl ?_;refine jb rfl rfl (qu (tv := .g (G.agg [G.sl 16 (List.map S5100.c r1.1.Slots), G.sl 14 (List.map S5072.c r1.1.Waiting)])) rfl zu rfl rfl rfl rfl rfl) ?_;refine sa rfl rfl ?_;refine qc ?_;refine qb ?_;obtain ⟨r2, br2, hR⟩ := qi hR;have e1 : r1 = (mB1, 0) := Option.some.inj (br1.symm.trans mk1)
 have q1 : r1.1.Slots.length ≤ 1000 := by rw [e1]; decide
 have q2 : r1.1.Waiting.length ≤ 1000 := by rw [e1]; decide
 have q3 : ∀ r, qc3 r1.1 (-1) = some r → r.length ≤ 1000 := by rw [e1]; exact mq1
 refine qa [.p, .r, .r, .p, .p, .p, .p, .w, .p] ?_;refine sm rfl rfl ?_;refine sr (zm rfl zu rfl rfl rfl rfl) rfl ?_;refine sr (zm rfl wo rfl rfl rfl rfl) rfl ?_;refine su (qf rfl q2k rfl (q2l [(S2062.mk (⟨#[104, 111, 117, 114]⟩) (⟨#[84]⟩) ByteArray.empty 60 60 0 0 (S45.mk 10 20 127) 2)] r1.1 (S115.mk (⟨#[113]⟩) (⟨#[99, 100]⟩) (⟨#[65]⟩) ByteArray.empty (⟨#[102, 97, 114]⟩) ByteArray.empty (S45.mk 10 13 127) 5 0 1 0) (by first | assumption | omega | (simp [qh]; done) | (simp [qh]; omega)) (by first | assumption | omega | (simp [qh]; done) | (simp [qh]; omega)) (by first | assumption | omega | (simp [qh]; done) | (simp [qh]; omega)) br2) (qe rfl (qe rfl (qe rfl qj)))) rfl ?_;refine sm rfl rfl ?_;refine su (qt rfl rfl rfl) rfl ?_;refine su (qt rfl rfl rfl) rfl ?_;refine jb rfl rfl (qu (tv := .g (G.agg [G.sl 16 (List.map S5100.c r2.1.Slots), G.sl 14 (List.map S5072.c r2.1.Waiting)])) rfl zu rfl rfl rfl rfl rfl) ?_;refine sa rfl rfl ?_;refine qc ?_;refine qb ?_;obtain ⟨r3, br3, hR⟩ := qi hR
 have e2 : r2 = (mB2, 0) := by rw [e1] at br2; exact Option.some.inj (br2.symm.trans mk2)
 have q4 : r2.1.Slots.length ≤ 1000000 := by rw [e2]; decide
 have q5 : r2.1.Waiting.length ≤ 1000000 := by rw [e2]; decide
 have q6 : ∀ a ∈ r2.1.Slots, a.Leases.length ≤ 1000000 := by rw [e2]; decide
 refine qa [.r, .p, .p, .p, .p, .w, .w, .p] ?_;refine sr (zm rfl zu rfl rfl rfl rfl) rfl ?_;refine su (qf rfl q91 rfl (q9t r2.1 (⟨#[99, 100]⟩) (⟨#[113]⟩) 12 (by first | assumption | omega | (simp [qh]; done) | (simp [qh]; omega)) (by first | assumption | omega | (simp [qh]; done) | (simp [qh]; omega)) (by first | assumption | omega | (simp [qh]; done) | (simp [qh]; omega)) br3) (qe rfl (qe rfl (qe rfl (qe rfl qj))))) rfl ?_;refine sm rfl rfl ?_;refine su (qt rfl rfl rfl) rfl ?_;refine su (qt rfl rfl rfl) rfl ?_;refine sw (zc 7 rfl wn rfl rfl) rfl ?_;refine jb rfl rfl (qu (tv := .g (G.agg [G.sl 16 (List.map S5100.c r3.1.Slots), G.sl 14 (List.map S5072.c r3.1.Waiting)])) rfl zu rfl rfl rfl rfl rfl) ?_;refine sa rfl rfl ?_;refine qc ?_;refine qb ?_;obtain ⟨r4, br4, hR⟩ := qi hR
 have e3 : r3 = (mB3, 0) := by rw [e2] at br3; exact Option.some.inj (br3.symm.trans mk3)
 have q7 : r3.1.Slots.length ≤ 1000000000000000 := by rw [e3]; decide
 refine qa [.r, .p, .p, .p, .p, .p, .p] ?_;refine sr (zm rfl zu rfl rfl rfl rfl) rfl ?_;refine su (qf rfl qys rfl (qyt r3.1 (by first | assumption | omega | (simp [qh]; done) | (simp [qh]; omega)) br4) (qe rfl qj)) rfl ?_;refine sm rfl rfl ?_;refine su (qt rfl rfl rfl) rfl ?_;refine su (qt rfl rfl rfl) rfl ?_;refine sa rfl rfl ?_;refine sa rfl rfl ?_;refine qc ?_;refine qb ?_;obtain ⟨r5, br5, hR⟩ := qi hR
 have e4 : r4 = (mS3, 0) := by rw [e3] at br4; exact Option.some.inj (br4.symm.trans mk4)
 have q8 : r4.1.length ≤ 1000 := by rw [e4]; decide
 refine qa [.p, .p, .p, .p, .p, .p, .p, .p, .p] ?_;refine sm rfl rfl ?_;refine sm rfl rfl ?_;refine su (jg rfl qqw rfl qxd (zz rfl (zz rfl (zz rfl kx))) rfl) rfl ?_;refine su (qf rfl q6r rfl (q6s [(S2062.mk (⟨#[104, 111, 117, 114]⟩) (⟨#[84]⟩) ByteArray.empty 60 60 0 0 (S45.mk 10 20 127) 2)] r4.1 (S1079.mk 15845 (⟨#[65]⟩) ByteArray.empty 0 0 0 (⟨#[122]⟩)) (by first | assumption | omega | (simp [qh]; done) | (simp [qh]; omega)) br5) (qe rfl (qe rfl (qe rfl qj)))) rfl ?_;refine sm rfl rfl ?_;refine su (qt rfl rfl rfl) rfl ?_;refine su (qt rfl rfl rfl) rfl ?_;refine sa rfl rfl ?_;refine sa rfl rfl ?_;refine qc ?_;refine qb ?_;obtain ⟨r6, br6, hR⟩ := qi hR;refine qa [.p, .p, .p, .p, .p, .p, .p, .p, .p] ?_;refine sm rfl rfl ?_;refine sm rfl rfl ?_;refine su (jg rfl qqw rfl qxd (zz rfl (zz rfl (zz rfl kx))) rfl) rfl ?_;refine su (qf rfl q6r rfl (q6s [(S2062.mk (⟨#[104, 111, 117, 114]⟩) (⟨#[84]⟩) ByteArray.empty 60 60 0 0 (S45.mk 10 20 127) 2)] r4.1 (S1079.mk 17285 (⟨#[65]⟩) ByteArray.empty 0 0 0 (⟨#[122]⟩)) (by first | assumption | omega | (simp [qh]; done) | (simp [qh]; omega)) br6) (qe rfl (qe rfl (qe rfl qj)))) rfl ?_;refine sm rfl rfl ?_;refine su (qt rfl rfl rfl) rfl ?_;refine su (qt rfl rfl rfl) rfl ?_;refine sa rfl rfl ?_;refine sa rfl rfl ?_;refine qc ?_;refine qb ?_;refine qa [.p, .p, .p, .p, .p, .p, .p, .p, .p, .p, .p, .p, .p, .p, .p, .p, .p, .p, .p, .p, .p] ?_;refine sm rfl rfl ?_;refine sm rfl rfl ?_;refine su (kp rfl rfl rfl) rfl ?_;refine sm rfl rfl ?_;refine su (kp rfl rfl rfl) rfl ?_;refine sm rfl rfl ?_;refine su (kp rfl rfl rfl) rfl ?_;refine sm rfl rfl ?_;refine su (kp rfl rfl rfl) rfl ?_;refine sm rfl rfl ?_;refine su (kp rfl rfl rfl) rfl ?_;refine su (jr rfl rfl rfl) rfl ?_;refine sm rfl rfl ?_;refine sg rfl rfl (fun h => qk rfl rfl) rfl ?_;refine sg rfl rfl (fun h => jr rfl (gd h rfl) rfl) rfl ?_;refine su (zx rfl rfl rfl rfl) rfl ?_;refine sm rfl rfl ?_;refine sg rfl rfl (fun h => qk rfl rfl) rfl ?_;refine sg rfl rfl (fun h => jr rfl (gd h rfl) rfl) rfl ?_;refine su (zx rfl rfl rfl rfl) rfl ?_;refine sa rfl rfl ?_;refine qc ?_;refine qo ?_;obtain rfl := Option.some.inj hR;exact zb rfl (rv_g rfl)
theorem qe8 {α β : Type} {x : Option α} {a : α} {f : α → Option β} {r : Option β} (h : x = some a) (k : f a = r) : zf x f = r := by rw [h]; exact k
theorem qt4 : qz2 = some true := by
 unfold qz2;refine qe8 mk1 ?_;refine qe8 mk2 ?_;refine qe8 mk3 ?_;refine qe8 mk4 ?_;refine qe8 mk5 ?_;refine qe8 mk6 ?_
 decide
theorem mkt_ex : ∃ b : Bool, b = true ∧ ∀ g : List (Nat × List Value), Con (EG g) 7 [] (G.bool b) := ⟨true, rfl, fun g => q9z qt4⟩
noncomputable def mktB : Bool := mkt_ex.choose
theorem qot : mktB = true := mkt_ex.choose_spec.1
theorem q0w {g : GL} : Con (EG g) 7 [] (G.bool mktB) := mkt_ex.choose_spec.2 g
end Go.Sim
set_option maxRecDepth 10000
namespace Go.Sim
structure ReqV (r : S115) : Prop where
 ok : RqOk r
 ne : (s69 r.Period).1 ≠ []
structure LeaseV (s : S5100) (l : S5102) : Prop where
 c : s147 l.Carrier = true
 f : 0 ≤ l.fFrom ∧ l.fFrom ≤ 99999
 t : 0 ≤ l.fTo ∧ l.fTo ≤ 99999
 o : l.fFrom ≤ l.fTo
 i : s.Request.Period.fFrom ≤ l.fFrom ∧ l.fTo ≤ s.Request.Period.fTo
 h : ¬ l.Carrier = s.Holder
structure SlotV (s : S5100) : Prop where
 rq : ReqV s.Request
 ho : s147 s.Holder = true
 ln : s.Leases.length ≤ 8
 ls : ∀ l ∈ s.Leases, LeaseV s l
 lp : s.Leases.Pairwise fun a b => a.fTo < b.fFrom
 sn : s.Shares.length ≤ 4
 ss : ∀ c ∈ s.Shares, s147 c = true ∧ ¬ c = s.Holder
 sd : s.Shares.Nodup
structure WishV (w : S5072) : Prop where
 rq : ReqV w.Request
 ra : 0 ≤ w.Rank ∧ w.Rank ≤ 999999999
def qp6 (a b : S5072) : Prop := a.Rank < b.Rank ∨ (a.Rank = b.Rank ∧ qay a.Request.Name b.Request.Name = true)
def qac (l : List S5100) : List ByteArray := l.map fun x => x.Request.Name
def xf (l : List S5072) : List ByteArray := l.map fun x => x.Request.Name
structure BookV (b : S5042) : Prop where
 sl : b.Slots.length ≤ 64
 wl : b.Waiting.length ≤ 64
 s : ∀ x ∈ b.Slots, SlotV x
 w : ∀ x ∈ b.Waiting, WishV x
 nd : (qac b.Slots ++ xf b.Waiting).Nodup
 or : b.Waiting.Pairwise qp6
theorem qaf {b : Bool} {e : Int} (he : e ≠ 0) : j8 b e = 0 ↔ b = false := by unfold j8; cases b <;> simp [he]
theorem qib {s : ByteArray} : qcq s = 0 ↔ s147 s = true := by unfold qcq; rw [qaf (by decide)]; simp
theorem ql3 {n a b : Int} : qpp n a b = 0 ↔ a ≤ n ∧ n ≤ b := by unfold qpp; rw [qaf (by decide)]; simp
theorem ql4 {n : Int} : qky n = 0 ↔ 0 ≤ n ∧ n ≤ 99999 := by unfold qky; exact ql3
theorem qic {s : ByteArray} : qkp s = 0 ↔ s147 s = true := by unfold qkp qh5; cases s147 s <;> simp
theorem qz3 {r : S115} (h : RqOk r) : qpe r = 0 := by
 unfold qpe;refine (qt5 _).2 fun x hx => ?_;simp only [List.mem_cons, List.not_mem_nil, or_false] at hx
 rcases hx with rfl | rfl | rfl | rfl | rfl | rfl | rfl | rfl | rfl | rfl | rfl | rfl
 ·exact qic.2 h.n
 ·exact qic.2 h.c
 ·exact qic.2 h.p
 ·exact q1f h.t
 ·exact q1f h.l
 ·have : qpd r.Kind = true := by unfold qpd; rcases h.k with e | e <;> simp [e]
  rw [this]; rfl
 ·rw [decide_eq_false h.lk]; rfl
 ·exact h.per
 ·exact qe9.2 h.m
 ·exact qe9.2 h.s
 ·exact qe9.2 h.z
 ·exact qe9.2 h.no
theorem qm1 {r : S115} (h : ReqV r) : qdd r = 0 := by
 unfold qdd;rw [qz3 h.ok, decide_eq_false (by simp), cond_false];refine vv.2 fun x hx => ?_;simp only [List.mem_cons, List.not_mem_nil, or_false] at hx;unfold qff at hx
 rcases hx with rfl | rfl
 ·rw [qlo h.ok.per]
 ·refine (qaf (by decide)).2 (decide_eq_false ?_);have := List.length_pos_iff.2 h.ne;show ¬ ((List.length (s69 r.Period).1 : Int) = 0)
  omega
theorem qqd {r : S115} (h : RqOk r) : qcp r = 0 := by
 unfold qcp;refine ko.2 fun x hx => ?_;simp only [List.mem_cons, List.not_mem_nil, or_false] at hx
 rcases hx with rfl | rfl | rfl | rfl | rfl | rfl
 ·rw [h.n]; rfl
 ·exact ql5.2 h.k
 ·refine qid.2 ?_;have ht := h.t;unfold qg9 at ht;rw [qds]
  simpa using ht
 ·exact h.per
 ·exact qdl.2 h.m
 ·have := h.z; exact ql6.2 ⟨h.s, by omega, h.no⟩
theorem qdr {α : Type} {l : List α} {k : Nat} {y : α} {t : List α} (h : l.drop k = y :: t) : l[k]? = some y ∧ l.drop (k + 1) = t ∧ k < l.length := by
 have h1 : k < l.length := by
  by_cases hk : k < l.length
  ·exact hk
  ·rw [List.drop_eq_nil_of_le (by omega)] at h; cases h
 rw [List.drop_eq_getElem_cons h1] at h
 injection h with h2 h3
 exact ⟨by rw [List.getElem?_eq_getElem h1, h2], h3, h1⟩
theorem qt6 {s : S5100} {l : S5102} (h : LeaseV s l) : qlf l = 0 ∧ qlg l s = 0 := by
 constructor
 ·unfold qlf;refine vv.2 fun x hx => ?_;simp only [List.mem_cons, List.not_mem_nil, or_false] at hx
  rcases hx with rfl | rfl | rfl | rfl
  ·exact qib.2 h.c
  ·exact ql4.2 h.f
  ·exact ql4.2 h.t
  ·exact (qaf (by decide)).2 (decide_eq_false (by have := h.o; omega))
 ·unfold qlg;refine vv.2 fun x hx => ?_;simp only [List.mem_cons, List.not_mem_nil, or_false] at hx
  rcases hx with rfl | rfl
  ·refine (qaf (by decide)).2 ?_;have := h.i;rw [decide_eq_false (by omega), decide_eq_false (by omega)]; rfl
  ·exact (qaf (by decide)).2 (decide_eq_false h.h)
theorem qxe (a : ByteArray) : ∀ (l : List ByteArray) (k : Nat), 0 ≤ qdv a l k ↔ a ∈ l
 | [], k => by rw [qdv]; simp
 | y :: t, k => by
  rw [qdv]
  by_cases h : a = y
  ·subst h; simp
  ·rw [decide_eq_false h, cond_false, qxe a t]; simp [h]
theorem q6t (l : List ByteArray) (a : ByteArray) : s88 l a = true ↔ a ∈ l := by
 unfold s88 s148;rw [decide_eq_true_iff]; exact qxe a l 0
theorem qk0 {s : S5100} (h : SlotV s) : ∀ (t : List ByteArray) (k : Nat), s.Shares.drop k = t → qc1 s t k = some 0
 | [], _, _ => rfl
 | y :: t, k, hd => by
  obtain ⟨h1, h2, h3⟩ := qdr hd;have hy := h.ss y (List.mem_of_getElem? h1)
  have hn : ¬ y ∈ s.Shares.take k := by
   intro hm;obtain ⟨j, hj1, hj2⟩ := List.mem_iff_getElem.1 hm;rw [List.length_take] at hj1;rw [List.getElem_take] at hj2;have e2 := (List.getElem?_eq_some_iff.1 h1).2;have := List.pairwise_iff_getElem.1 h.sd j k (by omega) h3 (by omega);exact this (hj2.trans e2.symm)
  have hz : ve [(qcq y), (j8 (decide (y = s.Holder)) 31), (j8 (s88 (List.take (Int.toNat ((k : Nat) : Int)) s.Shares) y) 9)] = 0 := vv.2 fun x hx => by
   simp only [List.mem_cons, List.not_mem_nil, or_false] at hx
   rcases hx with rfl | rfl | rfl
   ·exact qib.2 hy.1
   ·exact (qaf (by decide)).2 (decide_eq_false hy.2)
   ·rw [Int.toNat_natCast, show s88 (s.Shares.take k) y = false from Bool.eq_false_iff.2 fun e => hn ((q6t _ _).1 e)]; rfl
  rw [qc1, hz, decide_eq_false (by simp), cond_false];exact qk0 h t (k + 1) h2
theorem qut {α : Type} {l : List α} {k : Nat} (hk : k < l.length) (hl : l.length ≤ 1000) : ∃ q, (bif decide (0 < ((k : Nat) : Int)) then ixO l (max 0 (IntKind.i64.wrap (((k : Nat) : Int) - 1))) else some q) = some q ∧ (0 < k → l[k - 1]? = some q) := by
 by_cases h : 0 < k
 ·obtain ⟨q, hq⟩ : ∃ q, l[k - 1]? = some q := ⟨_, List.getElem?_eq_getElem (by omega)⟩;refine ⟨q, ?_, fun _ => hq⟩;rw [decide_eq_true (by omega), cond_true, wrap_i64 (by unfold I64; omega)];unfold ixO;rw [show max 0 (((k : Nat) : Int) - 1) = ((k - 1 : Nat) : Int) by omega, decide_eq_true (by omega), cond_true, Int.toNat_natCast, hq]
 ·refine ⟨l[k], ?_, fun h' => absurd h' h⟩;rw [decide_eq_false (by omega), cond_false]
theorem qk1 {s : S5100} (h : SlotV s) : ∀ (t : List S5102) (k : Nat), s.Leases.drop k = t → qcd s t k = some 0
 | [], _, _ => by
  have := h.sn;rw [qcd, decide_eq_false (by omega), cond_false];exact qk0 h _ 0 rfl
 | y :: t, k, hd => by
  obtain ⟨h1, h2, h3⟩ := qdr hd;obtain ⟨g1, g2⟩ := qt6 (h.ls y (List.mem_of_getElem? h1));have hln := h.ln
  have key : ∃ q, (bif decide (0 < ((k : Nat) : Int)) then ixO s.Leases (max 0 (IntKind.i64.wrap (((k : Nat) : Int) - 1))) else some default) = some q ∧ (0 < k → s.Leases[k - 1]? = some q) := by
   by_cases hk : 0 < k
   ·obtain ⟨q, q1, q2⟩ := qut h3 (by omega);rw [decide_eq_true (by omega), cond_true] at q1 ⊢;exact ⟨q, q1, q2⟩
   ·rw [decide_eq_false (by omega), cond_false];exact ⟨default, rfl, fun h' => absurd h' hk⟩
  obtain ⟨q, q1, q2⟩ := key
  have hc : (decide (0 < ((k : Nat) : Int)) && decide (y.fFrom ≤ q.fTo)) = false := by
   by_cases hk : 0 < k
   ·have e1 := List.getElem?_eq_some_iff.1 (q2 hk);have e2 := List.getElem?_eq_some_iff.1 h1;obtain ⟨e1, e1'⟩ := e1;obtain ⟨e2, e2'⟩ := e2;have := List.pairwise_iff_getElem.1 h.lp (k - 1) k e1 e2 (by omega);rw [e1', e2'] at this;rw [decide_eq_false (show ¬ y.fFrom ≤ q.fTo by omega), Bool.and_false]
   ·rw [decide_eq_false (by omega), Bool.false_and]
  have hz : ve [(qlf y), (qlg y s), (j8 ((decide (0 < ((k : Nat) : Int))) && (decide (y.fFrom ≤ q.fTo))) 15)] = 0 := vv.2 fun x hx => by
   simp only [List.mem_cons, List.not_mem_nil, or_false] at hx
   rcases hx with rfl | rfl | rfl
   ·exact g1
   ·exact g2
   ·rw [hc]; rfl
  rw [qcd, q1];simp only [zf];rw [hz, decide_eq_false (by simp), cond_false];exact qk1 h t (k + 1) h2
theorem quv {s : S5100} (h : SlotV s) : qxf s = some 0 := by
 have hln := h.ln
 have hz : ve [(qdd s.Request), (qcq s.Holder), (j8 (decide (8 < (List.length s.Leases : Int))) 5)] = 0 := vv.2 fun x hx => by
  simp only [List.mem_cons, List.not_mem_nil, or_false] at hx
  rcases hx with rfl | rfl | rfl
  ·exact qm1 h.rq
  ·exact qib.2 h.ho
  ·exact (qaf (by decide)).2 (decide_eq_false (by omega))
 unfold qxf;rw [hz, decide_eq_false (by simp), cond_false];exact qk1 h _ 0 rfl
theorem quu {w : S5072} (h : WishV w) : qlb w = 0 := by
 unfold qlb;refine vv.2 fun x hx => ?_;simp only [List.mem_cons, List.not_mem_nil, or_false] at hx
 rcases hx with rfl | rfl
 ·exact qm1 h.rq
 ·exact ql3.2 h.ra
theorem qt7 {K V : Type} [DecidableEq K] (m : List (K × V)) (k j : K) (v : V) : mget (mset m k v) j = if k = j then some v else mget m j := by
 induction m with
 | nil => by_cases h : k = j <;> simp [mset, mget, h]
 | cons p m ih =>
  obtain ⟨a, b⟩ := p
  by_cases ha : a = k
  ·subst ha
   by_cases h : a = j <;> simp [mset, mget, h]
  ·by_cases h : a = j
   ·subst h;have hk : ¬ k = a := fun h => ha h.symm
    simp [mset, mget, ha, hk]
   ·simp [mset, mget, ha, h, ih]
theorem qp8 {K V : Type} [DecidableEq K] (m : List (K × V)) (k j : K) (v z : V) : vd (mset m k v) j z = if k = j then v else vd m j z := by
 unfold vd;rw [qt7]
 by_cases h : k = j <;> simp [h]
end Go.Sim
