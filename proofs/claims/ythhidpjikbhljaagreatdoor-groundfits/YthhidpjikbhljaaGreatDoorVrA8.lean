/-
  What is proved: lemmas and contracts of functions on the way to the law groundFits (part 8).
-/
import Derived.Test.YthhidpjikbhljaaGreatDoorVrA7
import Derived.Test.YthhidpjikbhljaaGreatDoorVrA5
import Derived.Test.YthhidpjikbhljaaGreatDoorVrA6
set_option linter.unusedSectionVars false
set_option linter.unusedSimpArgs false
set_option linter.unusedVariables false
set_option linter.unnecessarySimpa false
set_option linter.deprecated false
namespace Go.Sim
section
variable {α : Type} (p : α → Bool) (n : Nat) (F : Nat → Int → Int → List α → Option (List α × Nat))
theorem del_loop (h1 : ∀ k i j x, F (k + 1) i j x = bif decide (j < (n : Int)) then bindO (ixO x j) fun y => (bif !(p y) then bindO (ixO x i) fun _ => F k (i + 1) (j + 1) (List.set x (Int.toNat i) y) else F k i (j + 1) x) else some (List.take (Int.toNat i) x, Int.toNat i)) :
  ∀ (t x : List α) (k i j : Nat), x.length = n → i < j → j + t.length = n → x.drop j = t → t.length < k → F k (i : Int) (j : Int) x = some (x.take i ++ t.filter (fun y => !(p y)), i + (t.filter (fun y => !(p y))).length)
 | _, x, 0, i, j, _, _, _, _, h => by omega
 | [], x, k + 1, i, j, hx, hij, hjn, _, _ => by
  rw [h1]
  have : ¬ (j : Int) < (n : Int) := by simp at hjn; omega
  rw [decide_eq_false this, cond_false]; simp
 | y :: t, x, k + 1, i, j, hx, hij, hjn, hd, hk => by
  rw [h1];rw [List.length_cons] at hjn hk
  have hlt : j < x.length := by omega
  have hdy := hd;rw [List.drop_eq_getElem_cons hlt] at hdy;have hy : x[j] = y := (List.cons.inj hdy).1;have ht : x.drop (j + 1) = t := (List.cons.inj hdy).2
  have i1 : ixO x (j : Int) = some y := by unfold ixO; rw [decide_eq_true (by omega), cond_true]; simp [hlt, hy]
  have i2 : ixO x (i : Int) = some x[i] := by unfold ixO; rw [decide_eq_true (by omega), cond_true]; simp [show i < x.length by omega]
  rw [decide_eq_true (show (j : Int) < (n : Int) by omega), cond_true, i1];simp only [bindO]
  cases hp : p y
  ·have e1 : ((i : Int) + 1) = ((i + 1 : Nat) : Int) := by push_cast; rfl
   have e2 : ((j : Int) + 1) = ((j + 1 : Nat) : Int) := by push_cast; rfl
   rw [Bool.not_false, cond_true, i2];simp only [];rw [e1, e2, show Int.toNat (i : Int) = i from rfl, del_loop h1 t (x.set i y) k (i + 1) (j + 1) (by simp [hx]) (by omega) (by omega) (by rw [List.drop_set_of_lt (by omega)]; exact ht) (by omega)]
   have e3 : (x.set i y).take (i + 1) = x.take i ++ [y] := by
    rw [List.take_succ_eq_append_getElem (by simp; omega)];rw [List.take_set_of_le (by omega)]
    simp
   rw [e3, List.filter_cons_of_pos (by simp [hp])];simp only [List.append_assoc, List.singleton_append, List.length_cons]
   congr 2; omega
  ·have e2 : ((j : Int) + 1) = ((j + 1 : Nat) : Int) := by push_cast; rfl
   rw [Bool.not_true, cond_false, e2, del_loop h1 t x k i (j + 1) hx (by omega) (by omega) ht (by omega), List.filter_cons_of_neg (by simp [hp])]
theorem ix_first (G : List α → Nat → Int) (h0 : ∀ k, G [] k = -1) (h1 : ∀ y t k, G (y :: t) k = bif p y then ((k : Nat) : Int) else G t (k + 1)) :
  ∀ l k, (G l k = -1 ∧ ∀ y ∈ l, p y = false) ∨ ∃ (i : Nat) (y : α) (t : List α), G l k = ((k + i : Nat) : Int) ∧ l = l.take i ++ y :: t ∧ i < l.length ∧ p y = true ∧ ∀ z ∈ l.take i, p z = false
 | [], k => .inl ⟨h0 k, by simp⟩
 | y :: t, k => by
  rw [h1]
  cases hp : p y with
  | true => exact .inr ⟨0, y, t, by simp, by simp, by simp, hp, by simp⟩
  | false =>
   rcases ix_first G h0 h1 t (k + 1) with ⟨h, h2⟩ | ⟨i, z, s, h2, h3, h4, h5, h6⟩
   ·exact .inl ⟨h, fun w hw => by rcases List.mem_cons.1 hw with e | e; exact e ▸ hp; exact h2 w e⟩
   ·refine .inr ⟨i + 1, z, s, by rw [cond_false, h2]; congr 1; omega, ?_, by simp; omega, h5, ?_⟩
    ·rw [List.take_succ_cons, List.cons_append, ← h3]
    ·intro w hw;rw [List.take_succ_cons] at hw
     rcases List.mem_cons.1 hw with e | e
     ·rw [e]; exact hp
     ·exact h6 w e
theorem del_ok (h1 : ∀ k i j x, F (k + 1) i j x = bif decide (j < (n : Int)) then bindO (ixO x j) fun y => (bif !(p y) then bindO (ixO x i) fun _ => F k (i + 1) (j + 1) (List.set x (Int.toNat i) y) else F k i (j + 1) x) else some (List.take (Int.toNat i) x, Int.toNat i))
  (G : List α → Nat → Int) (g0 : ∀ k, G [] k = -1) (g1 : ∀ y t k, G (y :: t) k = bif p y then ((k : Nat) : Int) else G t (k + 1)) (l : List α) (hn : l.length = n) :
  ∃ L : List α, (bif decide (G l 0 = (-1)) then some (l, l.length) else F ((((n : Int) - (G l 0 + 1)).toNat) + 1) (G l 0) (G l 0 + 1) l) = some (L, (l.filter (fun y => !(p y))).length) ∧ L.take (l.filter (fun y => !(p y))).length = l.filter (fun y => !(p y)) ∧ (l.filter (fun y => !(p y))).length ≤ L.length := by
 rcases ix_first p G g0 g1 l 0 with ⟨h, h2⟩ | ⟨i, y, t, h2, h3, h4, h5, h6⟩
 ·have hf : l.filter (fun y => !(p y)) = l := List.filter_eq_self.2 fun y hy => by simp [h2 y hy]
  rw [h, decide_eq_true rfl, cond_true, hf];exact ⟨l, rfl, by simp, Nat.le_refl _⟩
 ·rw [h2]
  have hne : ¬ (((0 + i : Nat) : Int) = -1) := by omega
  rw [decide_eq_false hne, cond_false, Nat.zero_add]
  have e2 : ((i : Int) + 1) = ((i + 1 : Nat) : Int) := by push_cast; rfl
  have hd : l.drop (i + 1) = t := by
   have hl : (l.take i).length = i := by rw [List.length_take]; omega
   rw [h3, show i + 1 = (l.take i).length + 1 by rw [hl], List.drop_append]
   simp
  have htl : i + 1 + t.length = n := by
   have := congrArg List.length hd;rw [List.length_drop] at this; omega
  have hfl : l.filter (fun y => !(p y)) = l.take i ++ t.filter (fun y => !(p y)) := by
   conv => lhs; rw [h3]
   rw [List.filter_append, List.filter_cons_of_neg (by simp [h5])]
   congr 1
   exact List.filter_eq_self.2 fun z hz => by simp [h6 z hz]
  have hlen : (l.filter (fun y => !(p y))).length = i + (t.filter (fun y => !(p y))).length := by
   rw [hfl, List.length_append, List.length_take]; omega
  rw [e2, del_loop p n F h1 t l _ i (i + 1) hn (by omega) htl hd (by omega), ← hlen, ← hfl];exact ⟨_, rfl, List.take_length, Nat.le_refl _⟩
end
theorem s1146_ok (l : List Int) (p : Int → Bool) : ∃ L : List Int, s1146 l p = some (L, (l.filter (fun y => !(p y))).length) ∧ L.take (l.filter (fun y => !(p y))).length = l.filter (fun y => !(p y)) ∧ (l.filter (fun y => !(p y))).length ≤ L.length :=
 del_ok p l.length (s1146_l1 l p) (fun _ _ _ _ => rfl) (s1170_l1 p) (fun _ => rfl) (fun _ _ _ => rfl) l rfl
theorem give1146 {l : List Int} {p : Int → Bool} {R : List Int × Nat} (h : s1146 l p = some R) : R.2 ≤ R.1.length := by
 obtain ⟨L, h1, _, h3⟩ := s1146_ok l p;rw [h1] at h; cases h; exact h3
section
variable {E : Env} {w0 : World} {M0 : Nat → Prop}
theorem TFits.forget {w : World} {M : Nat → Prop} {ρ : Rho} : ∀ {cs : List TV} {vs : List Value} (p : Nat), TFits w M ρ cs vs → TFits w M ρ (cs.set p .any) vs
 | [], [], _, _ => trivial
 | _ :: _, _ :: _, 0, h => ⟨⟨trivial, h.1.2⟩, h.2⟩
 | _ :: _, _ :: _, p + 1, h => ⟨h.1, TFits.forget p h.2⟩
 | [], _ :: _, _, h => h.elim
 | _ :: _, [], _, h => h.elim
theorem TFits.give {w : World} {M : Nat → Prop} {ρ : Rho} {tv : TV} {v : Value} (ht : TRel w M ρ tv v) : ∀ {cs : List TV} {vs : List Value} (p : Nat), TFits w M ρ cs vs → vs[p]? = some v → TFits w M ρ (cs.set p tv) vs
 | [], [], _, _, _ => trivial
 | _ :: _, u :: _, 0, h, hv => by simp at hv; subst hv; exact ⟨⟨ht, h.1.2⟩, h.2⟩
 | _ :: _, _ :: _, p + 1, h, hv => ⟨h.1, TFits.give ht p h.2 (by simpa using hv)⟩
 | [], _ :: _, _, h, _ => h.elim
 | _ :: _, [], _, h, _ => h.elim
end
section
variable {E : Env} {ops : Array Oper} {o : Oper} {os : List Oper} {cs : List Cls} {s : ASt} {r : TV} {K : ASt → Prop}
theorem st_wqn {i : Nat} {blk : Blk} (hd : o.dst = none) (hg : o.guard = none) (he : ∀ m, lookO m i = lookO s.mem i → EffW E o m (s.eval E) r ((i, blk) :: m) none) (hk : AOps E ops os cs ⟨s.n, s.tmps, (i, blk) :: s.mem⟩ K) : AOps E ops (o :: os) (.wq i :: cs) s K :=
 ⟨⟨s.n, s.tmps, (i, blk) :: s.mem⟩, ⟨(fun d' h => by rw [hd] at h; cases h), true, r, (i, blk) :: s.mem, none, by unfold Wanted; rw [hg], fun _ => ⟨rfl, blk, fun _ => rfl, he⟩, (by intro h; cases h), by rw [hd]; rfl⟩, hk⟩
end
section
variable {E : Env} {w0 : World} {M0 : Nat → Prop}
def MemF (s : ASt) (b : Nat) (blk : Blk) : Mem → Prop
 | [] => True
 | (i, B) :: r => (bif Nat.beq i b then B = blk else lookO s.mem i = some B) ∧ MemF s b blk r
theorem memF_look {s : ASt} {b : Nat} {blk : Blk} : ∀ {m : Mem}, MemF s b blk m → ∀ i B, lookO m i = some B → (i = b ∧ B = blk) ∨ (i ≠ b ∧ lookO s.mem i = some B)
 | [], _, _, _, h => by cases h
 | (j, B') :: r, hm, i, B, h => by
  simp only [lookO] at h
  cases hj : Nat.beq j i with
  | true =>
   rw [hj] at h;have hji := Nat.eq_of_beq_eq_true hj;subst hji;simp only [cond_true, Option.some.injEq] at h;subst h;have h1 := hm.1
   cases hb : Nat.beq j b with
   | true => rw [hb] at h1; exact .inl ⟨Nat.eq_of_beq_eq_true hb, h1⟩
   | false =>
    rw [hb] at h1;exact .inr ⟨fun e => by subst e; simp at hb, h1⟩
  | false => rw [hj] at h; exact memF_look hm.2 i B h
theorem aw_frzcell {c : Code} {Q : Exit → ASt → Prop} {s : ASt} (b p id k N : Nat) {e : TypeId} {cs : List TV} {xs : List (List G)} {l : List (Nat × TV)} {m : Mem} (hb : lookO s.mem b = some (.box cs)) (hc : cs[p]? = some (.osl id k 0 N)) (hx : lookO s.mem id = some (.arr e k xs)) (hN : xs.length = N)
  (h1 : WeakL s l) (h2 : MemF s b (.box (cs.set p (.g (.sl k xs)))) m) (h3 : closedB l m = true) (hid : lookO m id = none)
  (h : AWp E w0 M0 c Q (stt s.n l m)) (hbw : bowIn E m = true := by rfl) : AWp E w0 M0 c Q s := by
 intro a w ha;refine h a w ?_;obtain ⟨ρ, hm, hmk, ht⟩ := ha.ex
 let ρ' : Rho := fun id => if (lookO m id).isSome = true then ρ id else none
 have hρ : ∀ id, (lookO m id).isSome = true → ρ' id = ρ id := fun id hi => by simp only [ρ', if_pos hi]
 have hρ' : ∀ id x, ρ' id = some x → ρ id = some x ∧ (lookO m id).isSome = true := by
  intro id x hx;simp only [ρ'] at hx
  split at hx
  ·rename_i hi; exact ⟨hx, hi⟩
  ·cases hx
 have hM : ∀ b, owned M0 ρ' b → owned M0 ρ b := by
  rintro b (hb | ⟨id, o, ho, rfl⟩)
  ·exact .inl hb
  ·exact .inr ⟨id, o, (hρ' id _ ho).1, rfl⟩
 have hlent : lookO E.bow id = none := by
  cases hq : lookO E.bow id with
  | none => rfl
  | some x =>
   have := List.all_eq_true.1 hbw (id, x) (lookO_mem _ hq);simp only [hid] at this
   cases this
 have hno : ∀ ow, ρ id = some (some ow) → ¬ owned M0 ρ' ow.b := by
  rintro ow ho (hM0 | ⟨i, o, hi, he⟩)
  ·exact not_lent hm ho hlent (.inl hM0)
  ·have := hm.inj i id o ow (hρ' i _ hi).1 ho he;subst this;have := (hρ' i _ hi).2;rw [hid] at this; cases this
 simp only [closedB, Bool.and_eq_true, List.all_eq_true] at h3;refine ⟨ha.defers, ha.size, ρ', ⟨hm.below, hm.m0, ?_, ?_, ?_, ?_, ?_, hm.lentM, ?_⟩, hmk.sub hM, ?_⟩
 ·intro g vs hg;have := hm.glob g vs hg;exact ⟨⟨fun hb => this.1.1 (hM _ hb), this.1.2⟩, this.2.mono (fun _ _ _ => rfl) (fun b _ => hM b) this.1.1⟩
 ·intro id x hx;have := (hρ' id x hx).2
  cases hl : lookO m id with
  | none => rw [hl] at this; cases this
  | some b => exact ⟨b, hl⟩
 ·exact fun id ow ho => hm.fresh id ow (hρ' id _ ho).1
 ·exact fun id id' ow ow' ho ho' => hm.inj id id' ow ow' (hρ' id _ ho).1 (hρ' id' _ ho').1
 ·intro id x hx;rw [hρ id (List.all_eq_true.1 hbw (id, x) (lookO_mem _ hx))];exact hm.keep id x hx
 ·intro i blk' hb0;have hb0 : lookO m i = some blk' := hb0
  have hi : (lookO m i).isSome = true := by rw [hb0]; rfl
  rcases memF_look h2 i blk' hb0 with ⟨rfl, rfl⟩ | ⟨_, hold⟩
  ·obtain ⟨ow, ty, vs, g1, g2, g3, g4⟩ := hm.blk i _ hb;have hcl := h3.2 (i, .box (cs.set p (.g (.sl k xs)))) (lookO_mem _ hb0);obtain ⟨v, h4, h5, _⟩ := TFits.get p g4 hc;have hview := osl_view hm hx h5 (Nat.zero_le _) (by rw [hN]; exact Nat.le_refl _);obtain ⟨a', cap, e1, k1, k2, k3, k4, k5, k6⟩ := hview;subst hN;simp only [Nat.sub_zero, List.drop_zero, List.take_length] at e1 k1 k4 k5 k6
   have hv : TRel w (owned M0 ρ') ρ (.g (.sl k xs)) v := by
    refine ⟨a', cap, e1, k1, k2, k5, ?_⟩
    rcases k6 with k6 | ⟨b', o, cur, news, rfl, ⟨ow2, q0, rfl⟩, q1, q2, q3⟩
    ·have : xs = [] := List.eq_nil_of_length_eq_zero k6;subst this;exact .inl ⟨rfl, fun ha => (k3 ha).1⟩
    ·exact .inr ⟨ow2.b, o, rfl, hno ow2 q0, cells_of_fits q1 (q2.mono (fun _ _ _ => rfl) (fun b _ => hM b)) q3⟩
   refine ⟨ow, ty, vs, by rw [hρ i hi]; exact g1, g2, g3, ?_⟩;have hf : TFits w (owned M0 ρ) ρ (cs.set p .any) vs := TFits.forget p g4
   have hf' : TFits w (owned M0 ρ') ρ' (cs.set p .any) vs := hf.sub (m := m) hM hρ fun c hc' => by
    have hall : ∀ c ∈ cs.set p (.g (.sl k xs)), refsIn m c = true := by simpa [blkIn] using hcl
    rcases List.mem_or_eq_of_mem_set hc' with h | rfl
    ·obtain ⟨j, hj⟩ := List.mem_iff_getElem?.1 hc'
     by_cases hjp : p = j
     ·subst hjp;have hlt : p < cs.length := (List.getElem?_eq_some_iff.1 hc).1;rw [List.getElem?_set_self hlt] at hj
      cases hj; rfl
     ·rw [List.getElem?_set_ne hjp] at hj;exact hall c (List.mem_iff_getElem?.2 ⟨j, by rw [List.getElem?_set_ne hjp]; exact hj⟩)
    ·rfl
   have := TFits.give (tv := .g (.sl k xs)) (ρ := ρ') (show TRel w (owned M0 ρ') ρ' (.g (.sl k xs)) v from hv) p hf' h4
   rwa [List.set_set] at this
  ·have := hm.blk i blk' hold
   cases blk' with
   | box cs =>
    obtain ⟨ow, e, vs, g1, g2, g3, g4⟩ := this;have hcl := h3.2 (i, .box cs) (lookO_mem _ hb0);exact ⟨ow, e, vs, by rw [hρ i hi]; exact g1, g2, g3, g4.sub hM hρ (by simpa [blkIn] using hcl)⟩
   | arr e k xs =>
    rcases this with ⟨g1, g2⟩ | ⟨ow, vs, g1, g2, g3, g4, g5, g6, g7⟩
    ·exact .inl ⟨by rw [hρ i hi]; exact g1, g2⟩
    ·exact .inr ⟨ow, vs, by rw [hρ i hi]; exact g1, g2, g3, g4, g5, g6, g7.mono (fun _ _ _ => rfl) (fun b _ => hM b)⟩
   | mp es =>
    obtain ⟨ow, en, cl, g1, g2, g3, g4⟩ := this;exact ⟨ow, en, cl, by rw [hρ i hi]; exact g1, g2, g3.mono (fun _ _ _ => rfl) (fun b _ => hM b), g4⟩
   | obj o =>
    obtain ⟨ow, g1, g2, g3⟩ := this;exact ⟨ow, by rw [hρ i hi]; exact g1, g2, g3⟩
   | mit es seen =>
    obtain ⟨ow, g1, g2, g3⟩ := this;exact ⟨ow, by rw [hρ i hi]; exact g1, g2, g3.mono rfl (fun _ _ _ => rfl) (fun b _ => hM b)⟩
   | gone => trivial
 ·intro i;show TRel _ _ _ (lookT l i) _
  rcases weakL_get h1 i with h4 | ⟨h4, v, h5, h6⟩
  ·rw [h4]; trivial
  ·rw [h4];refine (ht i).sub (m := m) ?_ hM hρ;rw [← h4, h6];exact h3.1 (i, v) h5
end
section
variable {E : Env}
end
section
variable {E : Env} {w0 : World} {M0 : Nat → Prop}
instance (pre : List G) (id k hi : Nat) : PartT (.agl pre id k hi) (pre.map TV.g ++ [.osl id k 0 hi]) := ⟨fun {w M ρ v} h => by
 obtain ⟨vs, ow, p, rfl, h1, h2, h3, h4⟩ := h;show TFits w M ρ _ (vs ++ [_]).toArray.toList;have h5 := tfits_of_fits (ρ := ρ) h1
 have h6 : ∀ {cs : List TV} {us : List Value}, TFits w M ρ cs us → TFits w M ρ (cs ++ [.osl id k 0 hi]) (us ++ [Value.slice (some ⟨ow.b, p, none⟩) hi ow.cap]) := by
  intro cs
  induction cs with
  | nil =>
   intro us hu
   cases us with
   | nil => exact ⟨⟨.inr ⟨ow, h2, Nat.zero_le _, h3, p, by simp, fun h => by simpa using h4 h⟩, rfl⟩, trivial⟩
   | cons _ _ => exact hu.elim
  | cons c cs ih =>
   intro us hu
   cases us with
   | nil => exact hu.elim
   | cons u us => exact ⟨hu.1, ih hu.2⟩
 simpa using h6 h5⟩
end
section
variable {E : Env} {w0 : World} {M0 : Nat → Prop}
def G.ifP (P : Prop) : G := ⟨fun _ _ v => ∃ b : Bool, v = .bool b ∧ (b = true → P), fun h _ _ => h⟩
theorem eff_eqNil {α : Type} {f : α → List G} {l : List α} {o : Oper} {ev : Operand → TV} {t t' el : TypeId} {x y : Operand} {k : Nat} (ho : o.op = .binOp .eql t x y t') (ht : E.P.underlying t = some (.slice el)) (hx : ev x = .g (.sl k (l.map f))) (hy : ev y = .g (.lit (.slice none 0 0))) (mem : Mem) : Eff E o mem ev (.g (.ifP (l = []))) :=
 eff_same (fun w M ρ e he => by
  have h1 := he x (by rw [ho]; simp [Op.operands]);rw [hx] at h1;have h2 := he y (by rw [ho]; simp [Op.operands]);rw [hy] at h2;have h2 : e y = .slice none 0 0 := h2;obtain ⟨a, cap, h3, h4, h5, h6, h7⟩ := h1;rw [List.length_map] at h3 h4;have hq := Go.Ex.run_eqNil (P := E.P) w 9999 t el a l.length cap 0 0 ht;refine ⟨.bool a.isNone, ?_, a.isNone, rfl, fun ha => ?_⟩
  ·simp [execOp, ho, h3, h2, eqGuard, binOp, Op.equal, Op.maxDepth, hq]
  ·have ha : a = none := by cases a <;> simp_all
   rcases h7 with ⟨_, h8⟩ | ⟨b, oo, h8, _⟩
   ·have := h8 ha;exact List.eq_nil_of_length_eq_zero (by omega)
   ·rw [ha] at h8; cases h8) mem
theorem aw_condP {c : Operand} {x y : Code} {P : Prop} {Q : Exit → ASt → Prop} {s : ASt} (hb : s.eval E c = .g (.ifP P)) (ht : P → AWp E w0 M0 x Q s) (hf : AWp E w0 M0 y Q s) : AWp E w0 M0 (.cond c x y) Q s := by
 intro a w ha;obtain ⟨ρ, _, hx⟩ := ha.rel;have hc := hx c;rw [hb] at hc;obtain ⟨b, hc, hP⟩ := hc;have hc' : a.eval c = .bool b := hc
 cases b with
 | true => exact wpIn_cond_true hc' (ht (hP rfl) a w ha)
 | false => exact wpIn_cond_false hc' (hf a w ha)
end
end Go.Sim
set_option maxRecDepth 10000
namespace Go.Sim
open Go.Proofs
theorem n1145 {g : List (Nat × List Value)} (a0 : List Int) (hb : a0.length ≤ 1000) : ConN (EG g) 145 [G.sl 1 (List.map cInt a0)] 3 1 (List.map cInt a0) := by
 refine conN_of_aw Tryz.func145 rfl rfl fun w0 M0 => ?_;refine aw_seq ?_;refine aw_region [.p] ?_;refine st rfl rfl (eff_assigng rfl rfl) rfl ?_;refine st_nil ?_;refine aw_seq ?_;refine aw_seq ?_;refine aw_region [.p, .p] ?_;refine st rfl rfl (eff_moveg rfl rfl) rfl ?_;refine st rfl rfl (eff_eqNil (f := cInt) (l := a0) rfl Tryz.underlying51 rfl rfl) rfl ?_;refine st_nil ?_;refine aw_condP rfl (fun h => ?_) ?_
 ·refine aw_seq ?_;refine aw_region [.p] ?_;refine st rfl rfl (eff_assigng rfl rfl) rfl ?_;refine st_nil ?_;refine aw_ret ?_;exact doneN_nil (E := EG g) rfl rfl (by rw [h]; rfl)
 ·refine aw_skip ?_;refine aw_seq ?_;refine aw_region [.w, .p, .k, .p] ?_;refine st_w rfl rfl (eff_buildSO (xs := List.map cInt []) 5 rfl Tryz.underlying51 ty3 z3 rfl ps_nil rfl (by simp) (by decide) rfl) rfl ?_;refine st rfl rfl (eff_moveg rfl rfl) rfl ?_;refine st_k rfl rfl (eff_appL (f := cInt) (out := []) (new := a0) rfl app82 rfl rfl (src_eq rfl (src_sl (by decide) (by simp [cInt]))) (refsN rfl) (by simp; omega)) rfl ?_;refine st rfl rfl (eff_assignO rfl rfl) rfl ?_;refine st_nil ?_;refine aw_ret ?_;exact doneN_own (E := EG g) rfl rfl rfl (List.length_map ..)
end Go.Sim
set_option maxRecDepth 10000
namespace Go.Sim
open Go.Proofs
def s202 (a0 : Int) : Bool :=
 decide (a0 ≠ a0)
theorem c202 {g : List (Nat × List Value)} (a0 : Int)    : Con (EG g) 174 [G.int a0] (G.bool (s202 a0)) := by
 generalize hR : s202 a0 = R;unfold s202 at hR;refine con_of_aw Tryz.func174 rfl rfl fun w0 M0 => ?_;refine aw_seq ?_;refine aw_region [.p] ?_;refine st rfl rfl (eff_assigng rfl rfl) rfl ?_;refine st_nil ?_;refine aw_seq ?_;refine aw_region [.p, .p, .p, .p] ?_;refine st rfl rfl (eff_moveg rfl rfl) rfl ?_;refine st rfl rfl (eff_moveg rfl rfl) rfl ?_;refine st rfl rfl (eff_neq rfl rfl rfl) rfl ?_;refine st rfl rfl (eff_assigng rfl rfl) rfl ?_;refine st_nil ?_;refine aw_ret ?_;subst hR;exact res_c rfl (rv_g rfl)
section
variable {E : Env} {o : Oper} {ev : Operand → TV}
theorem wrap_u64 {n : Int} (h : 0 ≤ n) (h' : n ≤ 9223372036854775807) : IntKind.u64.wrap n = n := by
 have e : IntKind.u64.wrap n = n % 18446744073709551616 := by
  simp [IntKind.wrap, IntKind.bits, IntKind.signed]
 rw [e]; omega
theorem eff_convu {s t : TypeId} {x : Operand} {n : Int} {ds : TypeDesc} (ho : o.op = .convert s t x) (hs : E.P.underlying s = some ds) (ht : E.P.underlying t = some (.int .u64)) (hx : ev x = .g (.int n)) (h : 0 ≤ n) (h' : n ≤ 9223372036854775807) (mem : Mem) : Eff E o mem ev (.g (.lit (.int .u64 n))) := by
 have := eff_conv (E := E) ho hs ht hx mem
 rwa [wrap_u64 h h'] at this
theorem eff_convi {s t : TypeId} {x : Operand} {n : Int} {ds : TypeDesc} (ho : o.op = .convert s t x) (hs : E.P.underlying s = some ds) (ht : E.P.underlying t = some (.int .i64)) (hx : ev x = .g (.lit (.int .u64 n))) (h : I64 n) (mem : Mem) : Eff E o mem ev (.g (.int n)) := by
 have := eff_conv (E := E) ho hs ht hx mem
 rwa [wrap_i64 h] at this
end
end Go.Sim
set_option maxRecDepth 10000
namespace Go.Sim
open Go.Proofs
def s1194 (a0 : Int) (a1 : Int) : Bool :=
 ((s202 a0) && (!(s202 a1))) || (decide (a0 < a1))
theorem c1194 {g : List (Nat × List Value)} (a0 : Int) (a1 : Int)    : Con (EG g) 194 [G.int a0, G.int a1] (G.bool (s1194 a0 a1)) := by
 generalize hR : s1194 a0 a1 = R;unfold s1194 at hR;refine con_of_aw Tryz.func194 rfl rfl fun w0 M0 => ?_;refine aw_seq ?_;refine aw_region [.p] ?_;refine st rfl rfl (eff_assigng rfl rfl) rfl ?_;refine st_nil ?_;refine aw_seq ?_;refine aw_region [.p, .p, .p, .p, .p, .p, .p, .p, .p, .p, .p, .p, .p] ?_;refine st rfl rfl (eff_moveg rfl rfl) rfl ?_;refine st rfl rfl (eff_call rfl K202 rfl (c202 a0) (ag_cons rfl ag_nil)) rfl ?_;refine st rfl rfl (eff_moveg rfl rfl) rfl ?_;refine st_g rfl rfl rfl (gb_bool _ _) (fun h => eff_moveg rfl rfl) rfl ?_;refine st_g rfl rfl rfl (gb_bool _ _) (fun h => eff_call rfl K202 rfl (c202 a1) (ag_cons (gd h rfl) ag_nil)) rfl ?_;refine st_g rfl rfl rfl (gb_bool _ _) (fun h => eff_not rfl (gd h rfl)) rfl ?_;refine st rfl rfl (eff_and rfl rfl rfl rfl) rfl ?_;refine st rfl rfl (eff_moveg rfl rfl) rfl ?_;refine st_g rfl rfl rfl (gb_bool _ _) (fun h => eff_moveg rfl rfl) rfl ?_;refine st_g rfl rfl rfl (gb_bool _ _) (fun h => eff_moveg rfl rfl) rfl ?_;refine st_g rfl rfl rfl (gb_bool _ _) (fun h => eff_lss rfl (gd h rfl) (gd h rfl)) rfl ?_;refine st rfl rfl (eff_or rfl rfl rfl rfl) rfl ?_;refine st rfl rfl (eff_assigng rfl rfl) rfl ?_;refine st_nil ?_;refine aw_ret ?_;subst hR;exact res_c rfl (rv_g rfl)
def s1113 (a0 : S1063) (a1 : S1079) : Bool :=
 ((decide (a0.Terminal = (⟨#[]⟩))) || (decide (a0.Terminal = a1.Terminal))) && ((decide (a0.Kind = (⟨#[84]⟩))) || (decide (a0.Kind = a1.Kind)))
end Go.Sim
set_option maxRecDepth 10000
namespace Go.Sim
open Go.Proofs
def s1031 (a0 : S1049) (a1 : Int) (a2 : Int) : Bool :=
 (s1016 (s1017 a0.Stands) a1) && (s1018 (s1019 a0.Turns) a2)
theorem c1031 {g : List (Nat × List Value)} (a0 : S1049) (a1 : Int) (a2 : Int)  (hb0 : a0.Stands.length * 40 ≤ 140737488351232) (hb1 : a0.Turns.length * 56 ≤ 140737488351232)  : Con (EG g) 31 [G.agg [G.sl 3 (List.map S1122.c a0.Stands), G.sl 5 (List.map S1124.c a0.Turns), G.int a0.Buffer], G.int a1, G.int a2] (G.bool (s1031 a0 a1 a2)) := by
 generalize hR : s1031 a0 a1 a2 = R;unfold s1031 at hR;refine con_of_aw Tryz.func31 rfl rfl fun w0 M0 => ?_;refine aw_seq ?_;refine aw_region [.p, .p] ?_;refine st rfl rfl (eff_box rfl rfl) rfl ?_;refine st rfl rfl (eff_assigng rfl rfl) rfl ?_;refine st_nil ?_;refine aw_seq ?_;refine aw_region [.p, .p, .p, .p, .p, .p, .p, .p, .p, .p, .p, .p, .p] ?_;refine st rfl rfl (eff_fieldAddr rfl fl1050_0 rfl) rfl ?_;refine st rfl rfl (eff_load rfl ty1022 rfl) rfl ?_;refine st rfl rfl (eff_call rfl K1017 rfl (c1017 a0.Stands (by first | assumption | omega | (simp [copyL_len]; done) | (simp [copyL_len]; omega))) (ag_cons rfl ag_nil)) rfl ?_;refine st rfl rfl (eff_moveg rfl rfl) rfl ?_;refine st rfl rfl (eff_call rfl K1016 rfl (c1016 (s1017 a0.Stands) a1) (ag_cons rfl (ag_cons rfl ag_nil))) rfl ?_;refine st rfl rfl (eff_moveg rfl rfl) rfl ?_;refine st_g rfl rfl rfl (gb_bool _ _) (fun h => eff_fieldAddr rfl fl1050_1 rfl) rfl ?_;refine st_g rfl rfl rfl (gb_bool _ _) (fun h => eff_load rfl ty1023 (gd h rfl)) rfl ?_;refine st_g rfl rfl rfl (gb_bool _ _) (fun h => eff_call rfl K1019 rfl (c1019 a0.Turns (by first | assumption | omega | (simp [copyL_len]; done) | (simp [copyL_len]; omega))) (ag_cons (gd h rfl) ag_nil)) rfl ?_;refine st_g rfl rfl rfl (gb_bool _ _) (fun h => eff_moveg rfl rfl) rfl ?_;refine st_g rfl rfl rfl (gb_bool _ _) (fun h => eff_call rfl K1018 rfl (c1018 (s1019 a0.Turns) a2) (ag_cons (gd h rfl) (ag_cons (gd h rfl) ag_nil))) rfl ?_;refine st rfl rfl (eff_and rfl rfl rfl rfl) rfl ?_;refine st rfl rfl (eff_assigng rfl rfl) rfl ?_;refine st_nil ?_;refine aw_ret ?_;subst hR;exact res_c rfl (rv_g rfl)
def s1104 (a0 : List S1122) (a1 : List S1124) (a2 : Int) : Int :=
 (s1085 [(s1023 a0), (s1025 a1), (s1123 a2)])
theorem c1104 {g : List (Nat × List Value)} (a0 : List S1122) (a1 : List S1124) (a2 : Int)    : Con (EG g) 104 [G.sl 3 (List.map S1122.c a0), G.sl 5 (List.map S1124.c a1), G.int a2] (G.int (s1104 a0 a1 a2)) := by
 generalize hR : s1104 a0 a1 a2 = R;unfold s1104 at hR;refine con_of_aw Tryz.func104 rfl rfl fun w0 M0 => ?_;refine len_sl (f := S1122.c) (l := a0) 0 rfl fun hla0 => ?_;refine len_sl (f := S1124.c) (l := a1) 1 rfl fun hla1 => ?_;refine aw_seq ?_;refine aw_region [.p] ?_;refine st rfl rfl (eff_assigng rfl rfl) rfl ?_;refine st_nil ?_;refine aw_seq ?_;refine aw_region [.p, .p, .p, .p, .p, .p, .p, .p, .p] ?_;refine st rfl rfl (eff_moveg rfl rfl) rfl ?_;refine st rfl rfl (eff_call rfl K1023 rfl (c1023 a0) (ag_cons rfl ag_nil)) rfl ?_;refine st rfl rfl (eff_moveg rfl rfl) rfl ?_;refine st rfl rfl (eff_call rfl K1025 rfl (c1025 a1) (ag_cons rfl ag_nil)) rfl ?_;refine st rfl rfl (eff_moveg rfl rfl) rfl ?_;refine st rfl rfl (eff_call rfl K1123 rfl (c1123 a2) (ag_cons rfl ag_nil)) rfl ?_;refine st rfl rfl (eff_buildSlice rfl Tryz.underlying222 ty37 z37 rfl (ps_cons rfl (ps_cons rfl (ps_cons rfl ps_nil))) rfl (by simp []) (by decide)) rfl ?_;refine st rfl rfl (eff_call rfl K1085 rfl (c1085 [(s1023 a0), (s1025 a1), (s1123 a2)]) (ag_cons rfl ag_nil)) rfl ?_;refine st rfl rfl (eff_assigng rfl rfl) rfl ?_;refine st_nil ?_;refine aw_ret ?_;subst hR;exact res_c rfl (rv_g rfl)
def s1196_l2 (rec1 : Int → (List Int) → Option (List Int)) (a1 : Int) (x1 : Int) : Nat → Int → (List Int) → Option (List Int)
 | 0, _, _ => none
 | k8 + 1, x5, x6 => bindO (bif decide (a1 < x5) then ixO x6 x5 else some default) fun y9 => bindO (bif decide (a1 < x5) then ixO x6 (x5 - 1) else some default) fun y10 => (bif (decide (a1 < x5)) && (s1194 y9 y10) then bindO (ixO x6 (x5 - 1)) fun y11 => bindO (ixO x6 x5) fun y12 => bindO (ixO x6 x5) fun y13 => bindO (ixO (List.set x6 (Int.toNat x5) y11) (x5 - 1)) fun y14 => s1196_l2 rec1 a1 x1 k8 (x5 - 1) (List.set (List.set x6 (Int.toNat x5) y11) (Int.toNat (x5 - 1)) y12) else rec1 (x1 + 1) x6)
def s1196_l1 (a1 : Int) : Nat → Int → (List Int) → Option (List Int)
 | 0, x1, x2 => some x2
 | k4 + 1, x1, x2 => s1196_l2 (fun z0_ z1_ => s1196_l1 a1 k4 z0_ z1_) a1 x1 (((x1 - a1).toNat) + 1) x1 x2
def s1196 (a0 : List Int) (a1 : Int) (a2 : Int) : Option (List Int) :=
 s1196_l1 a1 ((a2 - (a1 + 1)).toNat) (a1 + 1) a0
theorem c1196 {g : List (Nat × List Value)} (a0 : List Int) (a1 : Int) (a2 : Int) {R : List Int} {N0 : Nat} (hN0 : List.length a0 = N0) (hA : 0 ≤ a1) (hA2 : a1 ≤ 1000000) (hB : a2 ≤ 1000000) (hR : s1196 a0 a1 a2 = some R) : ConB (EG g) 196 [.osl 0 1 0 N0, .g (G.int a1), .g (G.int a2)] [(0, .arr 3 1 (List.map cInt a0))] (G.tup []) [(0, .arr 3 1 (List.map cInt R))] := by
 unfold s1196 at hR;refine conB_of_aw Tryz.func196 rfl rfl rfl fun w0 M0 x => ?_;refine len_osl (f := cInt) (l := a0) 0 rfl fun hla0 => ?_;refine aw_seq ?_;refine aw_region [.p, .p, .p] ?_;refine st rfl rfl (eff_moveg rfl rfl) rfl ?_;refine st rfl rfl (eff_add rfl rfl rfl (by unfold I64; (try dsimp only); omega)) rfl ?_;refine st rfl rfl (eff_assigng rfl rfl) rfl ?_;refine st_nil ?_;refine aw_block ?_;refine aw_loop_g (γ := Nat × Int × (List Int)) (fun g => ([(0, .osl 0 1 0 (N0)), (1, .g (G.int a1)), (2, .g (G.int a2)), (6, .g (G.int g.2.1))], [(0, .arr 3 1 (List.map cInt g.2.2))])) (fun g => g.1 = (a2 - g.2.1).toNat ∧ (a1 + 1) ≤ g.2.1 ∧ List.length g.2.2 = N0 ∧ s1196_l1 a1 g.1 g.2.1 g.2.2 = some R) (fun g => g.1) ⟨rfl, ((a2 - (a1 + 1)).toNat, a1 + 1, a0), ⟨rfl, rfl, rfl, rfl, trivial⟩, ⟨rfl, trivial⟩, rfl, ⟨rfl, (by first | omega | (dsimp only; omega) | simp), hN0, hR⟩, trivial⟩ ?_
 ·rintro ⟨k4, x1, x2⟩ ⟨hk1, iv1_0, ln3, hR⟩;replace hk1 : k4 = (a2 - x1).toNat := hk1;replace hR : s1196_l1 a1 k4 x1 x2 = some R := hR;replace iv1_0 : (a1 + 1) ≤ x1 := iv1_0;replace ln3 : List.length x2 = N0 := ln3;refine aw_seq ?_;refine aw_seq ?_;refine aw_region [.p, .p, .p] ?_;refine st rfl rfl (eff_moveg rfl rfl) rfl ?_;refine st rfl rfl (eff_moveg rfl rfl) rfl ?_;refine st rfl rfl (eff_lss rfl rfl rfl) rfl ?_;refine st_nil ?_;refine aw_cond _ rfl (fun h1 => ?_) (fun h1 => ?_)
  ·replace h1 : (decide (x1 < a2)) = true := h1;replace h1 := decT h1;obtain ⟨k4, rfl⟩ : ∃ m, k4 = m + 1 := ⟨k4 - 1, by omega⟩;rw [s1196_l1] at hR;(try dsimp only at hR);refine aw_skip ?_;refine aw_seq ?_;refine aw_block ?_;refine aw_seq ?_;refine aw_region [.p, .p] ?_;refine st rfl rfl (eff_moveg rfl rfl) rfl ?_;refine st rfl rfl (eff_assigng rfl rfl) rfl ?_;refine st_nil ?_;refine aw_block ?_;refine aw_loop_g (γ := Nat × Int × (List Int)) (fun g => ([(0, .osl 0 1 0 (N0)), (1, .g (G.int a1)), (2, .g (G.int a2)), (6, .g (G.int x1)), (7, .g (G.int g.2.1))], [(0, .arr 3 1 (List.map cInt g.2.2))])) (fun g => (g.2.1 - a1).toNat < g.1 ∧ a1 ≤ g.2.1 ∧ g.2.1 ≤ 1000000 ∧ List.length g.2.2 = N0 ∧ s1196_l2 (fun z0_ z1_ => s1196_l1 a1 k4 z0_ z1_) a1 x1 g.1 g.2.1 g.2.2 = some R) (fun g => g.1) ⟨rfl, (((x1 - a1).toNat) + 1, x1, x2), ⟨rfl, rfl, rfl, rfl, rfl, trivial⟩, ⟨rfl, trivial⟩, rfl, ⟨Nat.lt_succ_self _, (by first | omega | (dsimp only; omega) | simp), (by first | omega | (dsimp only; omega) | simp), ln3, hR⟩, trivial⟩ ?_
   ·rintro ⟨k8, x5, x6⟩ ⟨hk2, iv2_0, iv2_1, ln7, hR⟩;replace hk2 : (x5 - a1).toNat < k8 := hk2;replace hR : s1196_l2 (fun z0_ z1_ => s1196_l1 a1 k4 z0_ z1_) a1 x1 k8 x5 x6 = some R := hR;replace iv2_0 : a1 ≤ x5 := iv2_0;replace iv2_1 : x5 ≤ 1000000 := iv2_1;replace ln7 : List.length x6 = N0 := ln7;obtain ⟨k8, rfl⟩ : ∃ m, k8 = m + 1 := ⟨k8 - 1, by omega⟩;rw [s1196_l2] at hR;(try dsimp only at hR);refine aw_seq ?_;refine aw_seq ?_;obtain ⟨y9, by9, hR⟩ := bindO_inv hR;obtain ⟨y10, by10, hR⟩ := bindO_inv hR;refine aw_draw [.p, .p, .p, .p, .p, .p, .p, .r, .p, .p, .p, .p, .r, .p, .p] (by kernel_rfl) ?_;refine st rfl rfl (eff_moveg rfl rfl) rfl ?_;refine st rfl rfl (eff_moveg rfl rfl) rfl ?_;refine st rfl rfl (eff_gtr rfl rfl rfl) rfl ?_;refine st rfl rfl (eff_moveg rfl rfl) rfl ?_;refine st_g rfl rfl rfl (gb_bool _ _) (fun h => eff_moveO rfl rfl) rfl ?_;refine st_g rfl rfl rfl (gb_bool _ _) (fun h => eff_moveg rfl rfl) rfl ?_;refine st_g rfl rfl rfl (gb_bool _ _) (fun h => eff_ixL rfl Tryz.underlying51 ty3 (gd h rfl) (gd h rfl) (ixO_nn (condT1 by9 h)) (Nat.lt_of_lt_of_eq (get_lt (ixO_get (condT1 by9 h))) ln7)) rfl ?_;refine st_gr rfl rfl rfl (gb_bool _ _) (fun h => eff_ldE (f := cInt) (l := x6) (a := y9) rfl ty3 (gd h rfl) rfl (ixO_get (condT1 by9 h)) rfl) rfl ?_;refine st_g rfl rfl rfl (gb_bool _ _) (fun h => eff_moveO rfl rfl) rfl ?_;refine st_g rfl rfl rfl (gb_bool _ _) (fun h => eff_moveg rfl rfl) rfl ?_;refine st_g rfl rfl rfl (gb_bool _ _) (fun h => eff_sub rfl (gd h rfl) rfl (by unfold I64; (try dsimp only); omega)) rfl ?_;refine st_g rfl rfl rfl (gb_bool _ _) (fun h => eff_ixL rfl Tryz.underlying51 ty3 (gd h rfl) (gd h rfl) (ixO_nn (condT1 by10 h)) (Nat.lt_of_lt_of_eq (get_lt (ixO_get (condT1 by10 h))) ln7)) rfl ?_;refine st_gr rfl rfl rfl (gb_bool _ _) (fun h => eff_ldE (f := cInt) (l := x6) (a := y10) rfl ty3 (gd h rfl) rfl (ixO_get (condT1 by10 h)) rfl) rfl ?_;refine st_g rfl rfl rfl (gb_bool _ _) (fun h => eff_call rfl K1194 rfl (Con.lend (c1194 y9 y10)) (ag_cons (gd h rfl) (ag_cons (gd h rfl) ag_nil))) rfl ?_;refine st rfl rfl (eff_and rfl rfl rfl rfl) rfl ?_;refine st_nil ?_;refine aw_cond _ rfl (fun h3 => ?_) (fun h3 => ?_)
    ·replace h3 : ((decide (a1 < x5)) && (s1194 y9 y10)) = true := h3;replace hR := condT hR h3;(try simp only [Bool.or_eq_true, Bool.and_eq_true, Bool.or_eq_false_iff, Bool.and_eq_false_iff, Bool.not_eq_true', Bool.not_eq_false', decide_eq_true_eq, decide_eq_false_iff_not] at h3);refine aw_skip ?_;refine aw_seq ?_;refine aw_block ?_;obtain ⟨y11, by11, hR⟩ := bindO_inv hR;obtain ⟨y12, by12, hR⟩ := bindO_inv hR;obtain ⟨y13, by13, hR⟩ := bindO_inv hR;obtain ⟨y14, by14, hR⟩ := bindO_inv hR;refine aw_draw [.p, .p, .p, .p, .p, .p, .p, .p, .p, .r, .p, .p, .p, .r, .p, .w, .p, .w] (by kernel_rfl) ?_;refine st rfl rfl (eff_moveO rfl rfl) rfl ?_;refine st rfl rfl (eff_moveg rfl rfl) rfl ?_;refine st rfl rfl (eff_moveO rfl rfl) rfl ?_;refine st rfl rfl (eff_moveg rfl rfl) rfl ?_;refine st rfl rfl (eff_sub rfl rfl rfl (by unfold I64; (try dsimp only); omega)) rfl ?_;refine st rfl rfl (eff_moveO rfl rfl) rfl ?_;refine st rfl rfl (eff_moveg rfl rfl) rfl ?_;refine st rfl rfl (eff_sub rfl rfl rfl (by unfold I64; (try dsimp only); omega)) rfl ?_;refine st rfl rfl (eff_ixL rfl Tryz.underlying51 ty3 rfl rfl (ixO_nn by11) (Nat.lt_of_lt_of_eq (get_lt (ixO_get by11)) ln7)) rfl ?_;refine st_r rfl rfl (eff_ldE (f := cInt) (l := x6) (a := y11) rfl ty3 rfl rfl (ixO_get by11) rfl) rfl ?_;refine st rfl rfl (eff_moveO rfl rfl) rfl ?_;refine st rfl rfl (eff_moveg rfl rfl) rfl ?_;refine st rfl rfl (eff_ixL rfl Tryz.underlying51 ty3 rfl rfl (ixO_nn by12) (Nat.lt_of_lt_of_eq (get_lt (ixO_get by12)) ln7)) rfl ?_;refine st_r rfl rfl (eff_ldE (f := cInt) (l := x6) (a := y12) rfl ty3 rfl rfl (ixO_get by12) rfl) rfl ?_;refine st rfl rfl (eff_ixL rfl Tryz.underlying51 ty3 rfl rfl (ixO_nn by13) (Nat.lt_of_lt_of_eq (get_lt (ixO_get by13)) ln7)) rfl ?_;refine st_wn rfl rfl (eff_setL (f := cInt) (l := x6) (a' := y11) rfl ty3 rfl rfl rfl (Nat.lt_of_lt_of_eq (Nat.lt_of_lt_of_eq (get_lt (ixO_get by13)) ln7) (Eq.symm ln7)) rfl (fun _ => rfl)) ?_;refine st rfl rfl (eff_ixL rfl Tryz.underlying51 ty3 rfl rfl (ixO_nn by14) (Nat.lt_of_lt_of_eq (get_lt (ixO_get by14)) ((List.length_set ..).trans ln7))) rfl ?_;refine st_wn rfl rfl (eff_setL (f := cInt) (l := List.set x6 (Int.toNat x5) y11) (a' := y12) rfl ty3 rfl rfl rfl (Nat.lt_of_lt_of_eq (Nat.lt_of_lt_of_eq (get_lt (ixO_get by14)) ((List.length_set ..).trans ln7)) (Eq.symm ((List.length_set ..).trans ln7))) rfl (fun _ => rfl)) ?_;refine st_nil ?_;refine aw_region [.p, .p, .p] ?_;refine st rfl rfl (eff_moveg rfl rfl) rfl ?_;refine st rfl rfl (eff_sub rfl rfl rfl (by unfold I64; (try dsimp only); omega)) rfl ?_;refine st rfl rfl (eff_assigng rfl rfl) rfl ?_;refine st_nil ?_;exact ⟨rfl, (k8, x5 - 1, List.set (List.set x6 (Int.toNat x5) y11) (Int.toNat (x5 - 1)) y12), ⟨(by simp only [List.length_set]; rfl), rfl, rfl, rfl, rfl, trivial⟩, ⟨rfl, trivial⟩, rfl, ⟨(by first | omega | (dsimp only; omega) | (simp at *; omega)), (by first | omega | (dsimp only; omega) | (simp at *; omega)), (by first | omega | (dsimp only; omega) | (simp at *; omega)), ((List.length_set ..).trans ((List.length_set ..).trans ln7)), hR⟩, by simp⟩
    ·replace h3 : ((decide (a1 < x5)) && (s1194 y9 y10)) = false := h3;replace hR := condF hR h3;(try simp only [Bool.or_eq_true, Bool.and_eq_true, Bool.or_eq_false_iff, Bool.and_eq_false_iff, Bool.not_eq_true', Bool.not_eq_false', decide_eq_true_eq, decide_eq_false_iff_not] at h3);refine aw_exit ?_;refine aw_region [.p, .p, .p] ?_;refine st rfl rfl (eff_moveg rfl rfl) rfl ?_;refine st rfl rfl (eff_add rfl rfl rfl (by (try dsimp only); unfold I64; omega)) rfl ?_;refine st rfl rfl (eff_assigng rfl rfl) rfl ?_;refine st_nil ?_;exact ⟨rfl, (k4, x1 + 1, x6), ⟨rfl, rfl, rfl, rfl, trivial⟩, ⟨rfl, trivial⟩, rfl, ⟨(by first | omega | (dsimp only; omega) | (simp at *; omega)), (by first | omega | (dsimp only; omega) | (simp at *; omega)), ln7, hR⟩, by simp⟩
  ·replace h1 : (decide (x1 < a2)) = false := h1;replace h1 := decF h1
   obtain rfl : k4 = 0 := by omega
   rw [s1196_l1] at hR;refine aw_exit ?_;obtain rfl := Option.some.inj hR;show ResOk _ _ _ _ ∧ MemL _ _;exact ⟨res0 rfl, ⟨rfl, trivial⟩⟩
def s1124_j1 (rec1 : Nat → Int → Int) (k3 : Nat) (x6 : Int) : Int :=
 rec1 (k3 + 1) x6
def s1124_l1 (a1 : Int) (a2 : Int) (a3 : Int) : List S1124 → Nat → Int → Int
 | [], k3, x1 => x1
 | y4 :: t5, k3, x1 => (bif (decide (a3 ≤ y4.Size)) && (s1129 y4 a2 a1) then s1124_j1 (fun k_ z0_ => s1124_l1 a1 a2 a3 t5 k_ z0_) k3 (IntKind.i64.wrap (x1 + 1)) else s1124_j1 (fun k_ z0_ => s1124_l1 a1 a2 a3 t5 k_ z0_) k3 x1)
def s1124 (a0 : List S1124) (a1 : Int) (a2 : Int) (a3 : Int) : Int :=
 s1124_l1 a1 a2 a3 a0 0 0
theorem c1124 {g : List (Nat × List Value)} (a0 : List S1124) (a1 : Int) (a2 : Int) (a3 : Int)    : Con (EG g) 124 [G.sl 5 (List.map S1124.c a0), G.int a1, G.int a2, G.int a3] (G.int (s1124 a0 a1 a2 a3)) := by
 generalize hR : s1124 a0 a1 a2 a3 = R;unfold s1124 at hR;refine con_of_aw Tryz.func124 rfl rfl fun w0 M0 => ?_;refine len_sl (f := S1124.c) (l := a0) 0 rfl fun hla0 => ?_;refine aw_seq ?_;refine aw_region [.p] ?_;refine st rfl rfl (eff_assigng rfl rfl) rfl ?_;refine st_nil ?_;refine aw_seq ?_;refine aw_region [.p] ?_;refine st rfl rfl (eff_assigng rfl rfl) rfl ?_;refine st_nil ?_;refine aw_seq ?_;refine aw_seq ?_;refine aw_region [.p, .p, .p] ?_;refine st rfl rfl (eff_moveg rfl rfl) rfl ?_;refine st rfl rfl (eff_lenM (f := S1124.c) (l := a0) rfl Tryz.underlying23 rfl) rfl ?_;refine st rfl rfl (eff_moveg rfl rfl) rfl ?_;refine st_nil ?_;refine aw_block ?_;refine aw_loop_g (γ := Nat × (List S1124) × Int) (fun g => ([(1, .g (G.int a1)), (2, .g (G.int a2)), (3, .g (G.int a3)), (9, .g (G.int g.2.2)), (12, .g (G.sl 5 (List.map S1124.c a0))), (13, .g (G.int (List.length a0 : Int))), (14, .g (G.int ((g.1 : Nat) : Int)))], [])) (fun g => a0.drop g.1 = g.2.1 ∧ s1124_l1 a1 a2 a3 g.2.1 g.1 g.2.2 = R) (fun g => List.length g.2.1) ⟨rfl, (0, a0, 0), ⟨rfl, rfl, rfl, rfl, rfl, rfl, rfl, trivial⟩, trivial, rfl, ⟨rfl, hR⟩, trivial⟩ ?_
 ·rintro ⟨k3, t5, x1⟩ ⟨hd, hR⟩;replace hd : a0.drop k3 = t5 := hd;replace hR : s1124_l1 a1 a2 a3 t5 k3 x1 = R := hR;refine aw_seq ?_;refine aw_region [.p] ?_;refine st rfl rfl (eff_lss rfl rfl rfl) rfl ?_;refine st_nil ?_;refine len_sl (f := S1124.c) (l := a0) 12 rfl fun hlz1 => ?_;refine aw_seq ?_;refine aw_cond _ rfl (fun h1 => ?_) (fun h1 => ?_)
  ·replace h1 : (decide (((k3 : Nat) : Int) < (List.length a0 : Int))) = true := h1;obtain ⟨y4, t5, rfl, hx1, hd⟩ := drop_cons hd (decT h1);replace h1 := decT h1;rw [s1124_l1] at hR;(try dsimp only at hR);refine aw_skip ?_;refine aw_cut_g (γ := Int) (fun g => ([(1, .g (G.int a1)), (2, .g (G.int a2)), (3, .g (G.int a3)), (9, .g (G.int g)), (12, .g (G.sl 5 (List.map S1124.c a0))), (13, .g (G.int (List.length a0 : Int))), (14, .g (G.int ((k3 : Nat) : Int)))], [])) (fun g => s1124_j1 (fun k_ z0_ => s1124_l1 a1 a2 a3 t5 k_ z0_) k3 g = R) ?_ ?_
   ·refine aw_block ?_;refine aw_seq ?_;refine aw_region [.p, .p, .w, .w] ?_;refine st rfl rfl (eff_ix (f := S1124.c) (l := a0) (a := y4) rfl Tryz.underlying23 ty1125 rfl rfl (Int.natCast_nonneg _) hx1) rfl ?_;refine st rfl rfl (eff_loadA rfl ty1125 rfl rfl rfl) rfl ?_;refine st_w rfl rfl (eff_alloc 11 rfl z1125 rfl rfl) rfl ?_;refine st_wn rfl rfl (eff_store (tv := .g (G.agg [G.str y4.Name, G.int y4.Start, G.int y4.End, G.int y4.Size, G.str y4.Terminal])) rfl ty1125 rfl rfl rfl rfl rfl) ?_;refine st_nil ?_;refine aw_seq ?_;refine aw_region [.p, .r, .p, .p, .p, .r, .p, .p, .p, .p] ?_;refine st rfl rfl (eff_fieldO rfl fl1125_3 rfl) rfl ?_;refine st_r rfl rfl (eff_loadO rfl ty3 rfl rfl rfl) rfl ?_;refine st rfl rfl (eff_moveg rfl rfl) rfl ?_;refine st rfl rfl (eff_geq rfl rfl rfl) rfl ?_;refine st rfl rfl (eff_moveg rfl rfl) rfl ?_;refine st_gr rfl rfl rfl (gb_bool _ _) (fun h => eff_loadOA rfl ty1125 rfl rfl rfl rfl) rfl ?_;refine st_g rfl rfl rfl (gb_bool _ _) (fun h => eff_moveg rfl rfl) rfl ?_;refine st_g rfl rfl rfl (gb_bool _ _) (fun h => eff_moveg rfl rfl) rfl ?_;refine st_g rfl rfl rfl (gb_bool _ _) (fun h => eff_call rfl K1129 rfl (c1129 y4 a2 a1) (ag_cons (gd h rfl) (ag_cons (gd h rfl) (ag_cons (gd h rfl) ag_nil)))) rfl ?_;refine st rfl rfl (eff_and rfl rfl rfl rfl) rfl ?_;refine st_nil ?_;refine aw_cond _ rfl (fun h3 => ?_) (fun h3 => ?_)
    ·replace h3 : ((decide (a3 ≤ y4.Size)) && (s1129 y4 a2 a1)) = true := h3;replace hR := condT hR h3;(try simp only [Bool.or_eq_true, Bool.and_eq_true, Bool.or_eq_false_iff, Bool.and_eq_false_iff, Bool.not_eq_true', Bool.not_eq_false', decide_eq_true_eq, decide_eq_false_iff_not] at h3);refine aw_region [.p, .p, .p] ?_;refine st rfl rfl (eff_moveg rfl rfl) rfl ?_;refine st rfl rfl (eff_addw rfl rfl rfl) rfl ?_;refine st rfl rfl (eff_assigng rfl rfl) rfl ?_;refine st_nil ?_;exact ⟨rfl, IntKind.i64.wrap (x1 + 1), ⟨rfl, rfl, rfl, rfl, rfl, rfl, rfl, trivial⟩, trivial, rfl, hR, trivial⟩
    ·replace h3 : ((decide (a3 ≤ y4.Size)) && (s1129 y4 a2 a1)) = false := h3;replace hR := condF hR h3;(try simp only [Bool.or_eq_true, Bool.and_eq_true, Bool.or_eq_false_iff, Bool.and_eq_false_iff, Bool.not_eq_true', Bool.not_eq_false', decide_eq_true_eq, decide_eq_false_iff_not] at h3);refine aw_skip ?_;exact ⟨rfl, x1, ⟨rfl, rfl, rfl, rfl, rfl, rfl, rfl, trivial⟩, trivial, rfl, hR, trivial⟩
   ·rintro x6 hR;replace hR : s1124_j1 (fun k_ z0_ => s1124_l1 a1 a2 a3 t5 k_ z0_) k3 x6 = R := hR;unfold s1124_j1 at hR;refine aw_region [.p, .p] ?_;refine st rfl rfl (eff_add rfl rfl rfl (by unfold I64; omega)) rfl ?_;refine st rfl rfl (eff_moveg rfl rfl) rfl ?_;refine st_nil ?_;exact ⟨rfl, (k3 + 1, t5, x6), ⟨rfl, rfl, rfl, rfl, rfl, rfl, rfl, trivial⟩, trivial, rfl, ⟨hd, hR⟩, by simp⟩
  ·replace h1 : (decide (((k3 : Nat) : Int) < (List.length a0 : Int))) = false := h1;obtain rfl := drop_nil hd (decF h1);rw [s1124_l1] at hR;refine aw_exit ?_;refine aw_seq ?_;refine aw_region [.p, .p] ?_;refine st rfl rfl (eff_moveg rfl rfl) rfl ?_;refine st rfl rfl (eff_assigng rfl rfl) rfl ?_;refine st_nil ?_;refine aw_ret ?_;subst hR;exact res_c rfl (rv_g rfl)
def s1122_j1 (rec1 : Nat → Int → Bool) (k3 : Nat) (x6 : Int) : Bool :=
 rec1 (k3 + 1) x6
def s1122_l1 (a1 : List S1124) (a2 : Int) (a3 : S1106) : List S1122 → Nat → Int → Bool
 | [], k3, x1 => decide (x1 < (s1124 a1 a2 a3.Moment a3.Size))
 | y4 :: t5, k3, x1 => (bif decide (a3.Size ≤ y4.Size) then s1122_j1 (fun k_ z0_ => s1122_l1 a1 a2 a3 t5 k_ z0_) k3 (IntKind.i64.wrap (x1 + 1)) else s1122_j1 (fun k_ z0_ => s1122_l1 a1 a2 a3 t5 k_ z0_) k3 x1)
def s1122 (a0 : List S1122) (a1 : List S1124) (a2 : Int) (a3 : S1106) : Bool :=
 s1122_l1 a1 a2 a3 a0 0 0
theorem c1122 {g : List (Nat × List Value)} (a0 : List S1122) (a1 : List S1124) (a2 : Int) (a3 : S1106)    : Con (EG g) 122 [G.sl 3 (List.map S1122.c a0), G.sl 5 (List.map S1124.c a1), G.int a2, G.agg [G.int a3.Moment, G.int a3.Size]] (G.bool (s1122 a0 a1 a2 a3)) := by
 generalize hR : s1122 a0 a1 a2 a3 = R;unfold s1122 at hR;refine con_of_aw Tryz.func122 rfl rfl fun w0 M0 => ?_;refine len_sl (f := S1122.c) (l := a0) 0 rfl fun hla0 => ?_;refine len_sl (f := S1124.c) (l := a1) 1 rfl fun hla1 => ?_;refine aw_seq ?_;refine aw_region [.p, .p] ?_;refine st rfl rfl (eff_box rfl rfl) rfl ?_;refine st rfl rfl (eff_assigng rfl rfl) rfl ?_;refine st_nil ?_;refine aw_seq ?_;refine aw_region [.p] ?_;refine st rfl rfl (eff_assigng rfl rfl) rfl ?_;refine st_nil ?_;refine aw_seq ?_;refine aw_seq ?_;refine aw_region [.p, .p, .p] ?_;refine st rfl rfl (eff_moveg rfl rfl) rfl ?_;refine st rfl rfl (eff_lenM (f := S1122.c) (l := a0) rfl Tryz.underlying22 rfl) rfl ?_;refine st rfl rfl (eff_moveg rfl rfl) rfl ?_;refine st_nil ?_;refine aw_block ?_;refine aw_loop_g (γ := Nat × (List S1122) × Int) (fun g => ([(1, .g (G.sl 5 (List.map S1124.c a1))), (2, .g (G.int a2)), (7, .g (G.ref [G.int a3.Moment, G.int a3.Size])), (9, .g (G.int g.2.2)), (12, .g (G.sl 3 (List.map S1122.c a0))), (13, .g (G.int (List.length a0 : Int))), (14, .g (G.int ((g.1 : Nat) : Int)))], [])) (fun g => a0.drop g.1 = g.2.1 ∧ s1122_l1 a1 a2 a3 g.2.1 g.1 g.2.2 = R) (fun g => List.length g.2.1) ⟨rfl, (0, a0, 0), ⟨rfl, rfl, rfl, rfl, rfl, rfl, rfl, trivial⟩, trivial, rfl, ⟨rfl, hR⟩, trivial⟩ ?_
 ·rintro ⟨k3, t5, x1⟩ ⟨hd, hR⟩;replace hd : a0.drop k3 = t5 := hd;replace hR : s1122_l1 a1 a2 a3 t5 k3 x1 = R := hR;refine aw_seq ?_;refine aw_region [.p] ?_;refine st rfl rfl (eff_lss rfl rfl rfl) rfl ?_;refine st_nil ?_;refine len_sl (f := S1122.c) (l := a0) 12 rfl fun hlz1 => ?_;refine aw_seq ?_;refine aw_cond _ rfl (fun h1 => ?_) (fun h1 => ?_)
  ·replace h1 : (decide (((k3 : Nat) : Int) < (List.length a0 : Int))) = true := h1;obtain ⟨y4, t5, rfl, hx1, hd⟩ := drop_cons hd (decT h1);replace h1 := decT h1;rw [s1122_l1] at hR;(try dsimp only at hR);refine aw_skip ?_;refine aw_cut_g (γ := Int) (fun g => ([(1, .g (G.sl 5 (List.map S1124.c a1))), (2, .g (G.int a2)), (7, .g (G.ref [G.int a3.Moment, G.int a3.Size])), (9, .g (G.int g)), (12, .g (G.sl 3 (List.map S1122.c a0))), (13, .g (G.int (List.length a0 : Int))), (14, .g (G.int ((k3 : Nat) : Int)))], [])) (fun g => s1122_j1 (fun k_ z0_ => s1122_l1 a1 a2 a3 t5 k_ z0_) k3 g = R) ?_ ?_
   ·refine aw_block ?_;refine aw_seq ?_;refine aw_region [.p, .p, .w, .w] ?_;refine st rfl rfl (eff_ix (f := S1122.c) (l := a0) (a := y4) rfl Tryz.underlying22 ty1123 rfl rfl (Int.natCast_nonneg _) hx1) rfl ?_;refine st rfl rfl (eff_loadA rfl ty1123 rfl rfl rfl) rfl ?_;refine st_w rfl rfl (eff_alloc 11 rfl z1123 rfl rfl) rfl ?_;refine st_wn rfl rfl (eff_store (tv := .g (G.agg [G.str y4.Name, G.int y4.Size, G.str y4.Terminal])) rfl ty1123 rfl rfl rfl rfl rfl) ?_;refine st_nil ?_;refine aw_seq ?_;refine aw_region [.p, .r, .p, .p, .p] ?_;refine st rfl rfl (eff_fieldO rfl fl1123_1 rfl) rfl ?_;refine st_r rfl rfl (eff_loadO rfl ty3 rfl rfl rfl) rfl ?_;refine st rfl rfl (eff_fieldAddr rfl fl1107_1 rfl) rfl ?_;refine st rfl rfl (eff_load rfl ty3 rfl) rfl ?_;refine st rfl rfl (eff_geq rfl rfl rfl) rfl ?_;refine st_nil ?_;refine aw_cond _ rfl (fun h3 => ?_) (fun h3 => ?_)
    ·replace h3 : (decide (a3.Size ≤ y4.Size)) = true := h3;replace hR := condT hR h3;(try simp only [Bool.or_eq_true, Bool.and_eq_true, Bool.or_eq_false_iff, Bool.and_eq_false_iff, Bool.not_eq_true', Bool.not_eq_false', decide_eq_true_eq, decide_eq_false_iff_not] at h3);refine aw_region [.p, .p, .p] ?_;refine st rfl rfl (eff_moveg rfl rfl) rfl ?_;refine st rfl rfl (eff_addw rfl rfl rfl) rfl ?_;refine st rfl rfl (eff_assigng rfl rfl) rfl ?_;refine st_nil ?_;exact ⟨rfl, IntKind.i64.wrap (x1 + 1), ⟨rfl, rfl, rfl, rfl, rfl, rfl, rfl, trivial⟩, trivial, rfl, hR, trivial⟩
    ·replace h3 : (decide (a3.Size ≤ y4.Size)) = false := h3;replace hR := condF hR h3;(try simp only [Bool.or_eq_true, Bool.and_eq_true, Bool.or_eq_false_iff, Bool.and_eq_false_iff, Bool.not_eq_true', Bool.not_eq_false', decide_eq_true_eq, decide_eq_false_iff_not] at h3);refine aw_skip ?_;exact ⟨rfl, x1, ⟨rfl, rfl, rfl, rfl, rfl, rfl, rfl, trivial⟩, trivial, rfl, hR, trivial⟩
   ·rintro x6 hR;replace hR : s1122_j1 (fun k_ z0_ => s1122_l1 a1 a2 a3 t5 k_ z0_) k3 x6 = R := hR;unfold s1122_j1 at hR;refine aw_region [.p, .p] ?_;refine st rfl rfl (eff_add rfl rfl rfl (by unfold I64; omega)) rfl ?_;refine st rfl rfl (eff_moveg rfl rfl) rfl ?_;refine st_nil ?_;exact ⟨rfl, (k3 + 1, t5, x6), ⟨rfl, rfl, rfl, rfl, rfl, rfl, rfl, trivial⟩, trivial, rfl, ⟨hd, hR⟩, by simp⟩
  ·replace h1 : (decide (((k3 : Nat) : Int) < (List.length a0 : Int))) = false := h1;obtain rfl := drop_nil hd (decF h1);rw [s1122_l1] at hR;refine aw_exit ?_;refine aw_seq ?_;refine aw_region [.p, .p, .p, .p, .p, .p, .p, .p, .p, .p] ?_;refine st rfl rfl (eff_moveg rfl rfl) rfl ?_;refine st rfl rfl (eff_moveg rfl rfl) rfl ?_;refine st rfl rfl (eff_fieldAddr rfl fl1107_0 rfl) rfl ?_;refine st rfl rfl (eff_load rfl ty3 rfl) rfl ?_;refine st rfl rfl (eff_fieldAddr rfl fl1107_1 rfl) rfl ?_;refine st rfl rfl (eff_load rfl ty3 rfl) rfl ?_;refine st rfl rfl (eff_call rfl K1124 rfl (c1124 a1 a2 a3.Moment a3.Size) (ag_cons rfl (ag_cons rfl (ag_cons rfl (ag_cons rfl ag_nil))))) rfl ?_;refine st rfl rfl (eff_moveg rfl rfl) rfl ?_;refine st rfl rfl (eff_gtr rfl rfl rfl) rfl ?_;refine st rfl rfl (eff_assigng rfl rfl) rfl ?_;refine st_nil ?_;refine aw_ret ?_;subst hR;exact res_c rfl (rv_g rfl)
def s1110_l2 (rec1 : Nat → Option Int) (a1 : List S1124) (a2 : Int) (a3 : List Int) (k2 : Nat) (y3 : Int) : Nat → Int → Option Int
 | 0, x7 => rec1 (k2 + 1)
 | k9 + 1, x7 => bindO (ixO a3 x7) fun y10 => bindO (bif decide (y10 = y3) then ixO a1 x7 else some default) fun y11 => bindO (bif decide (y10 = y3) then ixO a1 ((k2 : Nat) : Int) else some default) fun y12 => (bif (decide (y10 = y3)) && (s1130 y11 y12 a2) then some 15 else s1110_l2 rec1 a1 a2 a3 k2 y3 k9 (x7 + 1))
def s1110_l1 (a0 : List S1122) (a1 : List S1124) (a2 : Int) (a3 : List Int) : List Int → Nat → Option Int
 | [], k2 => some 0
 | y3 :: t4, k2 => (bif (decide (y3 < 0)) || (decide ((List.length a0 : Int) ≤ y3)) then some 10 else bindO (ixO a1 ((k2 : Nat) : Int)) fun y5 => bindO (ixO a0 y3) fun y6 => (bif !(s1128 y5 y6) then some 18 else s1110_l2 (fun k_ => s1110_l1 a0 a1 a2 a3 t4 k_) a1 a2 a3 k2 y3 ((((k2 : Nat) : Int) - 0).toNat) 0))
def s1110 (a0 : List S1122) (a1 : List S1124) (a2 : Int) (a3 : List Int) : Option Int :=
 (bif decide ((List.length a3 : Int) ≠ (List.length a1 : Int)) then some 2 else s1110_l1 a0 a1 a2 a3 a3 0)
theorem c1110 {g : List (Nat × List Value)} (a0 : List S1122) (a1 : List S1124) (a2 : Int) (a3 : List Int) {R : Int}   (hR : s1110 a0 a1 a2 a3 = some R) : Con (EG g) 110 [G.sl 3 (List.map S1122.c a0), G.sl 5 (List.map S1124.c a1), G.int a2, G.sl 1 (List.map cInt a3)] (G.int R) := by
 unfold s1110 at hR;refine con_of_aw Tryz.func110 rfl rfl fun w0 M0 => ?_;refine len_sl (f := S1122.c) (l := a0) 0 rfl fun hla0 => ?_;refine len_sl (f := S1124.c) (l := a1) 1 rfl fun hla1 => ?_;refine len_sl (f := cInt) (l := a3) 3 rfl fun hla3 => ?_;refine aw_seq ?_;refine aw_region [.p] ?_;refine st rfl rfl (eff_assigng rfl rfl) rfl ?_;refine st_nil ?_;refine aw_seq ?_;refine aw_seq ?_;refine aw_region [.p, .p, .p, .p, .p] ?_;refine st rfl rfl (eff_moveg rfl rfl) rfl ?_;refine st rfl rfl (eff_lenM (f := cInt) (l := a3) rfl Tryz.underlying51 rfl) rfl ?_;refine st rfl rfl (eff_moveg rfl rfl) rfl ?_;refine st rfl rfl (eff_lenM (f := S1124.c) (l := a1) rfl Tryz.underlying23 rfl) rfl ?_;refine st rfl rfl (eff_neq rfl rfl rfl) rfl ?_;refine st_nil ?_;refine aw_cond _ rfl (fun h1 => ?_) (fun h1 => ?_)
 ·replace h1 : (decide ((List.length a3 : Int) ≠ (List.length a1 : Int))) = true := h1;replace hR := condT hR h1;(try simp only [Bool.or_eq_true, Bool.and_eq_true, Bool.or_eq_false_iff, Bool.and_eq_false_iff, Bool.not_eq_true', Bool.not_eq_false', decide_eq_true_eq, decide_eq_false_iff_not] at h1);refine aw_seq ?_;refine aw_region [.p] ?_;refine st rfl rfl (eff_assigng rfl rfl) rfl ?_;refine st_nil ?_;refine aw_ret ?_;obtain rfl := Option.some.inj hR;exact res_c rfl (rv_g rfl)
 ·replace h1 : (decide ((List.length a3 : Int) ≠ (List.length a1 : Int))) = false := h1;replace hR := condF hR h1;(try simp only [Bool.or_eq_true, Bool.and_eq_true, Bool.or_eq_false_iff, Bool.and_eq_false_iff, Bool.not_eq_true', Bool.not_eq_false', decide_eq_true_eq, decide_eq_false_iff_not] at h1);refine aw_skip ?_;refine aw_seq ?_;refine aw_seq ?_;refine aw_region [.p, .p, .p] ?_;refine st rfl rfl (eff_moveg rfl rfl) rfl ?_;refine st rfl rfl (eff_lenM (f := cInt) (l := a3) rfl Tryz.underlying51 rfl) rfl ?_;refine st rfl rfl (eff_moveg rfl rfl) rfl ?_;refine st_nil ?_;refine aw_block ?_;refine aw_loop_g (γ := Nat × (List Int)) (fun g => ([(0, .g (G.sl 3 (List.map S1122.c a0))), (1, .g (G.sl 5 (List.map S1124.c a1))), (2, .g (G.int a2)), (3, .g (G.sl 1 (List.map cInt a3))), (17, .g (G.sl 1 (List.map cInt a3))), (18, .g (G.int (List.length a3 : Int))), (19, .g (G.int ((g.1 : Nat) : Int)))], [])) (fun g => a3.drop g.1 = g.2 ∧ s1110_l1 a0 a1 a2 a3 g.2 g.1 = some R) (fun g => List.length g.2) ⟨rfl, (0, a3), ⟨rfl, rfl, rfl, rfl, rfl, rfl, rfl, trivial⟩, trivial, rfl, ⟨rfl, (by exact hR)⟩, trivial⟩ ?_
  ·rintro ⟨k2, t4⟩ ⟨hd, hR⟩;replace hd : a3.drop k2 = t4 := hd;replace hR : s1110_l1 a0 a1 a2 a3 t4 k2 = some R := hR;refine aw_seq ?_;refine aw_region [.p] ?_;refine st rfl rfl (eff_lss rfl rfl rfl) rfl ?_;refine st_nil ?_;refine len_sl (f := cInt) (l := a3) 3 rfl fun hlz1 => ?_;refine aw_seq ?_;refine aw_cond _ rfl (fun h2 => ?_) (fun h2 => ?_)
   ·replace h2 : (decide (((k2 : Nat) : Int) < (List.length a3 : Int))) = true := h2;obtain ⟨y3, t4, rfl, hx1, hd⟩ := drop_cons hd (decT h2);replace h2 := decT h2;rw [s1110_l1] at hR;(try dsimp only at hR);refine aw_skip ?_;refine aw_seq ?_;refine aw_block ?_;refine aw_seq ?_;refine aw_region [.p, .p, .p, .p, .p] ?_;refine st rfl rfl (eff_moveg rfl rfl) rfl ?_;refine st rfl rfl (eff_ix (f := cInt) (l := a3) (a := y3) rfl Tryz.underlying51 ty3 rfl rfl (Int.natCast_nonneg _) hx1) rfl ?_;refine st rfl rfl (eff_load rfl ty3 rfl) rfl ?_;refine st rfl rfl (eff_assigng rfl rfl) rfl ?_;refine st rfl rfl (eff_assigng rfl rfl) rfl ?_;refine st_nil ?_;refine aw_seq ?_;refine aw_seq ?_;refine aw_region [.p, .p, .p, .p, .p, .p, .p, .p] ?_;refine st rfl rfl (eff_moveg rfl rfl) rfl ?_;refine st rfl rfl (eff_lss rfl rfl rfl) rfl ?_;refine st rfl rfl (eff_moveg rfl rfl) rfl ?_;refine st_g rfl rfl rfl (gb_bool _ _) (fun h => eff_moveg rfl rfl) rfl ?_;refine st_g rfl rfl rfl (gb_bool _ _) (fun h => eff_moveg rfl rfl) rfl ?_;refine st_g rfl rfl rfl (gb_bool _ _) (fun h => eff_lenM (f := S1122.c) (l := a0) rfl Tryz.underlying22 (gd h rfl)) rfl ?_;refine st_g rfl rfl rfl (gb_bool _ _) (fun h => eff_geq rfl (gd h rfl) (gd h rfl)) rfl ?_;refine st rfl rfl (eff_or rfl rfl rfl rfl) rfl ?_;refine st_nil ?_;refine aw_cond _ rfl (fun h4 => ?_) (fun h4 => ?_)
    ·replace h4 : ((decide (y3 < 0)) || (decide ((List.length a0 : Int) ≤ y3))) = true := h4;replace hR := condT hR h4;(try simp only [Bool.or_eq_true, Bool.and_eq_true, Bool.or_eq_false_iff, Bool.and_eq_false_iff, Bool.not_eq_true', Bool.not_eq_false', decide_eq_true_eq, decide_eq_false_iff_not] at h4);refine aw_seq ?_;refine aw_region [.p] ?_;refine st rfl rfl (eff_assigng rfl rfl) rfl ?_;refine st_nil ?_;refine aw_ret ?_;obtain rfl := Option.some.inj hR;exact res_c rfl (rv_g rfl)
    ·replace h4 : ((decide (y3 < 0)) || (decide ((List.length a0 : Int) ≤ y3))) = false := h4;replace hR := condF hR h4;(try simp only [Bool.or_eq_true, Bool.and_eq_true, Bool.or_eq_false_iff, Bool.and_eq_false_iff, Bool.not_eq_true', Bool.not_eq_false', decide_eq_true_eq, decide_eq_false_iff_not] at h4);refine aw_skip ?_;refine aw_seq ?_;refine aw_seq ?_;obtain ⟨y5, by5, hR⟩ := bindO_inv hR;obtain ⟨y6, by6, hR⟩ := bindO_inv hR;refine aw_draw [.p, .p, .p, .p, .p, .p, .p, .p, .p, .p] (by kernel_rfl) ?_;refine st rfl rfl (eff_moveg rfl rfl) rfl ?_;refine st rfl rfl (eff_moveg rfl rfl) rfl ?_;refine st rfl rfl (eff_ix (f := S1124.c) (l := a1) (a := y5) rfl Tryz.underlying23 ty1125 rfl rfl (ixO_nn by5) (ixO_get by5)) rfl ?_;refine st rfl rfl (eff_loadA rfl ty1125 rfl rfl rfl) rfl ?_;refine st rfl rfl (eff_moveg rfl rfl) rfl ?_;refine st rfl rfl (eff_moveg rfl rfl) rfl ?_;refine st rfl rfl (eff_ix (f := S1122.c) (l := a0) (a := y6) rfl Tryz.underlying22 ty1123 rfl rfl (ixO_nn by6) (ixO_get by6)) rfl ?_;refine st rfl rfl (eff_loadA rfl ty1123 rfl rfl rfl) rfl ?_;refine st rfl rfl (eff_call rfl K1128 rfl (c1128 y5 y6) (ag_cons rfl (ag_cons rfl ag_nil))) rfl ?_;refine st rfl rfl (eff_not rfl rfl) rfl ?_;refine st_nil ?_;refine aw_cond _ rfl (fun h5 => ?_) (fun h5 => ?_)
     ·replace h5 : (!(s1128 y5 y6)) = true := h5;replace hR := condT hR h5;(try simp only [Bool.or_eq_true, Bool.and_eq_true, Bool.or_eq_false_iff, Bool.and_eq_false_iff, Bool.not_eq_true', Bool.not_eq_false', decide_eq_true_eq, decide_eq_false_iff_not] at h5);refine aw_seq ?_;refine aw_region [.p] ?_;refine st rfl rfl (eff_assigng rfl rfl) rfl ?_;refine st_nil ?_;refine aw_ret ?_;obtain rfl := Option.some.inj hR;exact res_c rfl (rv_g rfl)
     ·replace h5 : (!(s1128 y5 y6)) = false := h5;replace hR := condF hR h5;(try simp only [Bool.or_eq_true, Bool.and_eq_true, Bool.or_eq_false_iff, Bool.and_eq_false_iff, Bool.not_eq_true', Bool.not_eq_false', decide_eq_true_eq, decide_eq_false_iff_not] at h5);refine aw_skip ?_;refine aw_seq ?_;refine aw_region [.p, .p] ?_;refine st rfl rfl (eff_moveg rfl rfl) rfl ?_;refine st rfl rfl (eff_moveg rfl rfl) rfl ?_;refine st_nil ?_;refine aw_block ?_;refine aw_loop_g (γ := Nat × Int) (fun g => ([(0, .g (G.sl 3 (List.map S1122.c a0))), (1, .g (G.sl 5 (List.map S1124.c a1))), (2, .g (G.int a2)), (3, .g (G.sl 1 (List.map cInt a3))), (9, .g (G.int ((k2 : Nat) : Int))), (10, .g (G.int y3)), (17, .g (G.sl 1 (List.map cInt a3))), (18, .g (G.int (List.length a3 : Int))), (19, .g (G.int ((k2 : Nat) : Int))), (42, .g (G.int ((k2 : Nat) : Int))), (43, .g (G.int g.2))], [])) (fun g => g.1 = (((k2 : Nat) : Int) - g.2).toNat ∧ 0 ≤ g.2 ∧ s1110_l2 (fun k_ => s1110_l1 a0 a1 a2 a3 t4 k_) a1 a2 a3 k2 y3 g.1 g.2 = some R) (fun g => g.1) ⟨rfl, ((((k2 : Nat) : Int) - 0).toNat, 0), ⟨rfl, rfl, rfl, rfl, rfl, rfl, rfl, rfl, rfl, rfl, rfl, trivial⟩, trivial, rfl, ⟨rfl, (by first | omega | (dsimp only; omega) | simp), (by exact hR)⟩, trivial⟩ ?_
      ·rintro ⟨k9, x7⟩ ⟨hk2, iv2_0, hR⟩;replace hk2 : k9 = (((k2 : Nat) : Int) - x7).toNat := hk2;replace hR : s1110_l2 (fun k_ => s1110_l1 a0 a1 a2 a3 t4 k_) a1 a2 a3 k2 y3 k9 x7 = some R := hR;replace iv2_0 : 0 ≤ x7 := iv2_0;refine aw_seq ?_;refine aw_region [.p] ?_;refine st rfl rfl (eff_lss rfl rfl rfl) rfl ?_;refine st_nil ?_;refine aw_seq ?_;refine aw_cond _ rfl (fun h6 => ?_) (fun h6 => ?_)
       ·replace h6 : (decide (x7 < ((k2 : Nat) : Int))) = true := h6;replace h6 := decT h6;obtain ⟨k9, rfl⟩ : ∃ m, k9 = m + 1 := ⟨k9 - 1, by omega⟩;rw [s1110_l2] at hR;(try dsimp only at hR);refine aw_skip ?_;refine aw_seq ?_;refine aw_block ?_;refine aw_seq ?_;refine aw_region [.p, .p] ?_;refine st rfl rfl (eff_moveg rfl rfl) rfl ?_;refine st rfl rfl (eff_assigng rfl rfl) rfl ?_;refine st_nil ?_;refine aw_seq ?_;obtain ⟨y10, by10, hR⟩ := bindO_inv hR;obtain ⟨y11, by11, hR⟩ := bindO_inv hR;obtain ⟨y12, by12, hR⟩ := bindO_inv hR;refine aw_draw [.p, .p, .p, .p, .p, .p, .p, .p, .p, .p, .p, .p, .p, .p, .p, .p, .p, .p] (by kernel_rfl) ?_;refine st rfl rfl (eff_moveg rfl rfl) rfl ?_;refine st rfl rfl (eff_moveg rfl rfl) rfl ?_;refine st rfl rfl (eff_ix (f := cInt) (l := a3) (a := y10) rfl Tryz.underlying51 ty3 rfl rfl (ixO_nn by10) (ixO_get by10)) rfl ?_;refine st rfl rfl (eff_load rfl ty3 rfl) rfl ?_;refine st rfl rfl (eff_moveg rfl rfl) rfl ?_;refine st rfl rfl (eff_eql rfl rfl rfl) rfl ?_;refine st rfl rfl (eff_moveg rfl rfl) rfl ?_;refine st_g rfl rfl rfl (gb_bool _ _) (fun h => eff_moveg rfl rfl) rfl ?_;refine st_g rfl rfl rfl (gb_bool _ _) (fun h => eff_moveg rfl rfl) rfl ?_;refine st_g rfl rfl rfl (gb_bool _ _) (fun h => eff_ix (f := S1124.c) (l := a1) (a := y11) rfl Tryz.underlying23 ty1125 (gd h rfl) (gd h rfl) (ixO_nn (condT1 by11 h)) (ixO_get (condT1 by11 h))) rfl ?_;refine st_g rfl rfl rfl (gb_bool _ _) (fun h => eff_loadA rfl ty1125 (gd h rfl) rfl rfl) rfl ?_;refine st_g rfl rfl rfl (gb_bool _ _) (fun h => eff_moveg rfl rfl) rfl ?_;refine st_g rfl rfl rfl (gb_bool _ _) (fun h => eff_moveg rfl rfl) rfl ?_;refine st_g rfl rfl rfl (gb_bool _ _) (fun h => eff_ix (f := S1124.c) (l := a1) (a := y12) rfl Tryz.underlying23 ty1125 (gd h rfl) (gd h rfl) (ixO_nn (condT1 by12 h)) (ixO_get (condT1 by12 h))) rfl ?_;refine st_g rfl rfl rfl (gb_bool _ _) (fun h => eff_loadA rfl ty1125 (gd h rfl) rfl rfl) rfl ?_;refine st_g rfl rfl rfl (gb_bool _ _) (fun h => eff_moveg rfl rfl) rfl ?_;refine st_g rfl rfl rfl (gb_bool _ _) (fun h => eff_call rfl K1130 rfl (c1130 y11 y12 a2) (ag_cons (gd h rfl) (ag_cons (gd h rfl) (ag_cons (gd h rfl) ag_nil)))) rfl ?_;refine st rfl rfl (eff_and rfl rfl rfl rfl) rfl ?_;refine st_nil ?_;refine aw_cond _ rfl (fun h8 => ?_) (fun h8 => ?_)
        ·replace h8 : ((decide (y10 = y3)) && (s1130 y11 y12 a2)) = true := h8;replace hR := condT hR h8;(try simp only [Bool.or_eq_true, Bool.and_eq_true, Bool.or_eq_false_iff, Bool.and_eq_false_iff, Bool.not_eq_true', Bool.not_eq_false', decide_eq_true_eq, decide_eq_false_iff_not] at h8);refine aw_seq ?_;refine aw_region [.p] ?_;refine st rfl rfl (eff_assigng rfl rfl) rfl ?_;refine st_nil ?_;refine aw_ret ?_;obtain rfl := Option.some.inj hR;exact res_c rfl (rv_g rfl)
        ·replace h8 : ((decide (y10 = y3)) && (s1130 y11 y12 a2)) = false := h8;replace hR := condF hR h8;(try simp only [Bool.or_eq_true, Bool.and_eq_true, Bool.or_eq_false_iff, Bool.and_eq_false_iff, Bool.not_eq_true', Bool.not_eq_false', decide_eq_true_eq, decide_eq_false_iff_not] at h8);refine aw_skip ?_;refine aw_region [.p, .p] ?_;refine st rfl rfl (eff_add rfl rfl rfl (by (try dsimp only); unfold I64; omega)) rfl ?_;refine st rfl rfl (eff_moveg rfl rfl) rfl ?_;refine st_nil ?_;exact ⟨rfl, (k9, x7 + 1), ⟨rfl, rfl, rfl, rfl, rfl, rfl, rfl, rfl, rfl, rfl, rfl, trivial⟩, trivial, rfl, ⟨(by first | omega | (dsimp only; omega) | (simp at *; omega)), (by first | omega | (dsimp only; omega) | (simp at *; omega)), hR⟩, by simp⟩
       ·replace h6 : (decide (x7 < ((k2 : Nat) : Int))) = false := h6;replace h6 := decF h6
        obtain rfl : k9 = 0 := by omega
        rw [s1110_l2] at hR;refine aw_exit ?_;refine aw_region [.p, .p] ?_;refine st rfl rfl (eff_add rfl rfl rfl (by unfold I64; omega)) rfl ?_;refine st rfl rfl (eff_moveg rfl rfl) rfl ?_;refine st_nil ?_;exact ⟨rfl, (k2 + 1, t4), ⟨rfl, rfl, rfl, rfl, rfl, rfl, rfl, trivial⟩, trivial, rfl, ⟨hd, hR⟩, by simp⟩
   ·replace h2 : (decide (((k2 : Nat) : Int) < (List.length a3 : Int))) = false := h2;obtain rfl := drop_nil hd (decF h2);rw [s1110_l1] at hR;refine aw_exit ?_;refine aw_seq ?_;refine aw_region [.p] ?_;refine st rfl rfl (eff_assigng rfl rfl) rfl ?_;refine st_nil ?_;refine aw_ret ?_;obtain rfl := Option.some.inj hR;exact res_c rfl (rv_g rfl)
def s1033 (a0 : List S1122) (a1 : List S1124) (a2 : Int) (a3 : List Int) : Option Int :=
 (bif decide ((s1104 a0 a1 a2) ≠ 0) then some (s1104 a0 a1 a2) else bindO (s1110 a0 a1 a2 a3) fun r1 => some r1)
theorem c1033 {g : List (Nat × List Value)} (a0 : List S1122) (a1 : List S1124) (a2 : Int) (a3 : List Int) {R : Int}   (hR : s1033 a0 a1 a2 a3 = some R) : Con (EG g) 33 [G.sl 3 (List.map S1122.c a0), G.sl 5 (List.map S1124.c a1), G.int a2, G.sl 1 (List.map cInt a3)] (G.int R) := by
 unfold s1033 at hR;refine con_of_aw Tryz.func33 rfl rfl fun w0 M0 => ?_;refine len_sl (f := S1122.c) (l := a0) 0 rfl fun hla0 => ?_;refine len_sl (f := S1124.c) (l := a1) 1 rfl fun hla1 => ?_;refine len_sl (f := cInt) (l := a3) 3 rfl fun hla3 => ?_;refine aw_seq ?_;refine aw_region [.p] ?_;refine st rfl rfl (eff_assigng rfl rfl) rfl ?_;refine st_nil ?_;refine aw_seq ?_;refine aw_seq ?_;refine aw_region [.p, .p, .p, .p, .p] ?_;refine st rfl rfl (eff_moveg rfl rfl) rfl ?_;refine st rfl rfl (eff_moveg rfl rfl) rfl ?_;refine st rfl rfl (eff_moveg rfl rfl) rfl ?_;refine st rfl rfl (eff_call rfl K1104 rfl (c1104 a0 a1 a2) (ag_cons rfl (ag_cons rfl (ag_cons rfl ag_nil)))) rfl ?_;refine st rfl rfl (eff_assigng rfl rfl) rfl ?_;refine st_nil ?_;refine aw_seq ?_;refine aw_region [.p, .p] ?_;refine st rfl rfl (eff_moveg rfl rfl) rfl ?_;refine st rfl rfl (eff_neq rfl rfl rfl) rfl ?_;refine st_nil ?_;refine aw_cond _ rfl (fun h1 => ?_) (fun h1 => ?_)
 ·replace h1 : (decide ((s1104 a0 a1 a2) ≠ 0)) = true := h1;replace hR := condT hR h1;(try simp only [Bool.or_eq_true, Bool.and_eq_true, Bool.or_eq_false_iff, Bool.and_eq_false_iff, Bool.not_eq_true', Bool.not_eq_false', decide_eq_true_eq, decide_eq_false_iff_not] at h1);refine aw_seq ?_;refine aw_region [.p, .p] ?_;refine st rfl rfl (eff_moveg rfl rfl) rfl ?_;refine st rfl rfl (eff_assigng rfl rfl) rfl ?_;refine st_nil ?_;refine aw_ret ?_;obtain rfl := Option.some.inj hR;exact res_c rfl (rv_g rfl)
 ·replace h1 : (decide ((s1104 a0 a1 a2) ≠ 0)) = false := h1;replace hR := condF hR h1;(try simp only [Bool.or_eq_true, Bool.and_eq_true, Bool.or_eq_false_iff, Bool.and_eq_false_iff, Bool.not_eq_true', Bool.not_eq_false', decide_eq_true_eq, decide_eq_false_iff_not] at h1);refine aw_skip ?_;refine aw_seq ?_;obtain ⟨r1, br1, hR⟩ := bindO_inv hR;refine aw_region [.p, .p, .p, .p, .p, .p] ?_;refine st rfl rfl (eff_moveg rfl rfl) rfl ?_;refine st rfl rfl (eff_moveg rfl rfl) rfl ?_;refine st rfl rfl (eff_moveg rfl rfl) rfl ?_;refine st rfl rfl (eff_moveg rfl rfl) rfl ?_;refine st rfl rfl (eff_call rfl K1110 rfl (c1110 a0 a1 a2 a3 br1) (ag_cons rfl (ag_cons rfl (ag_cons rfl (ag_cons rfl ag_nil))))) rfl ?_;refine st rfl rfl (eff_assigng rfl rfl) rfl ?_;refine st_nil ?_;refine aw_ret ?_;obtain rfl := Option.some.inj hR;exact res_c rfl (rv_g rfl)
def s1125_j1 (rec1 : Nat → Int → Int) (k3 : Nat) (x6 : Int) : Int :=
 rec1 (k3 + 1) x6
def s1125_l1 (a1 : Int) (a2 : Int) (a3 : Int) : List S1124 → Nat → Int → Int
 | [], k3, x1 => x1
 | y4 :: t5, k3, x1 => (bif (decide (a3 ≤ y4.Size)) && (s1131 y4 a1 a2) then s1125_j1 (fun k_ z0_ => s1125_l1 a1 a2 a3 t5 k_ z0_) k3 (IntKind.i64.wrap (x1 + 1)) else s1125_j1 (fun k_ z0_ => s1125_l1 a1 a2 a3 t5 k_ z0_) k3 x1)
def s1125 (a0 : List S1124) (a1 : Int) (a2 : Int) (a3 : Int) : Int :=
 s1125_l1 a1 a2 a3 a0 0 0
def s1034 (a0 : S1049) : Option Int :=
 bindO (s1024 (s1017 a0.Stands)) fun r1 => bindO (s1026 (s1019 a0.Turns)) fun r2 => some (s1040 [r1, r2, (s1058 a0.Buffer)])
theorem c1034 {g : List (Nat × List Value)} (a0 : S1049) {R : Int}  (hb0 : a0.Stands.length * 40 ≤ 140737488351232) (hb1 : a0.Turns.length * 56 ≤ 140737488351232) (hR : s1034 a0 = some R) : Con (EG g) 34 [G.agg [G.sl 3 (List.map S1122.c a0.Stands), G.sl 5 (List.map S1124.c a0.Turns), G.int a0.Buffer]] (G.int R) := by
 unfold s1034 at hR;refine con_of_aw Tryz.func34 rfl rfl fun w0 M0 => ?_;refine aw_seq ?_;refine aw_region [.p, .p] ?_;refine st rfl rfl (eff_box rfl rfl) rfl ?_;refine st rfl rfl (eff_assigng rfl rfl) rfl ?_;refine st_nil ?_;refine aw_seq ?_;obtain ⟨r1, br1, hR⟩ := bindO_inv hR;obtain ⟨r2, br2, hR⟩ := bindO_inv hR;refine aw_draw [.p, .p, .p, .p, .p, .p, .p, .p, .p, .p, .p, .p, .p, .p] (by kernel_rfl) ?_;refine st rfl rfl (eff_fieldAddr rfl fl1050_0 rfl) rfl ?_;refine st rfl rfl (eff_load rfl ty1022 rfl) rfl ?_;refine st rfl rfl (eff_call rfl K1017 rfl (c1017 a0.Stands (by first | assumption | omega | (simp [copyL_len]; done) | (simp [copyL_len]; omega))) (ag_cons rfl ag_nil)) rfl ?_;refine st rfl rfl (eff_call rfl K1024 rfl (c1024 (s1017 a0.Stands) br1) (ag_cons rfl ag_nil)) rfl ?_;refine st rfl rfl (eff_fieldAddr rfl fl1050_1 rfl) rfl ?_;refine st rfl rfl (eff_load rfl ty1023 rfl) rfl ?_;refine st rfl rfl (eff_call rfl K1019 rfl (c1019 a0.Turns (by first | assumption | omega | (simp [copyL_len]; done) | (simp [copyL_len]; omega))) (ag_cons rfl ag_nil)) rfl ?_;refine st rfl rfl (eff_call rfl K1026 rfl (c1026 (s1019 a0.Turns) br2) (ag_cons rfl ag_nil)) rfl ?_;refine st rfl rfl (eff_fieldAddr rfl fl1050_2 rfl) rfl ?_;refine st rfl rfl (eff_load rfl ty3 rfl) rfl ?_;refine st rfl rfl (eff_call rfl K1058 rfl (c1058 a0.Buffer) (ag_cons rfl ag_nil)) rfl ?_;refine st rfl rfl (eff_buildSlice rfl Tryz.underlying51 ty3 z3 rfl (ps_cons rfl (ps_cons rfl (ps_cons rfl ps_nil))) rfl (by simp []) (by decide)) rfl ?_;refine st rfl rfl (eff_call rfl K1040 rfl (c1040 [r1, r2, (s1058 a0.Buffer)]) (ag_cons rfl ag_nil)) rfl ?_;refine st rfl rfl (eff_assigng rfl rfl) rfl ?_;refine st_nil ?_;refine aw_ret ?_;obtain rfl := Option.some.inj hR;exact res_c rfl (rv_g rfl)
def s83_l1 (a1 : List Int) : List Int → Nat → Option Bool
 | [], k2 => some true
 | y3 :: t4, k2 => bindO (ixO a1 ((k2 : Nat) : Int)) fun y5 => (bif decide (y3 ≠ y5) then some false else s83_l1 a1 t4 (k2 + 1))
def s83 (a0 : List Int) (a1 : List Int) : Option Bool :=
 (bif decide ((List.length a0 : Int) ≠ (List.length a1 : Int)) then some false else s83_l1 a1 a0 0)
theorem c83 {g : List (Nat × List Value)} (a0 : List Int) (a1 : List Int) {R : Bool}   (hR : s83 a0 a1 = some R) : Con (EG g) 63 [G.sl 1 (List.map cInt a0), G.sl 1 (List.map cInt a1)] (G.bool R) := by
 unfold s83 at hR;refine con_of_aw Tryz.func63 rfl rfl fun w0 M0 => ?_;refine len_sl (f := cInt) (l := a0) 0 rfl fun hla0 => ?_;refine len_sl (f := cInt) (l := a1) 1 rfl fun hla1 => ?_;refine aw_seq ?_;refine aw_region [.p] ?_;refine st rfl rfl (eff_assigng rfl rfl) rfl ?_;refine st_nil ?_;refine aw_seq ?_;refine aw_seq ?_;refine aw_region [.p, .p, .p, .p, .p] ?_;refine st rfl rfl (eff_moveg rfl rfl) rfl ?_;refine st rfl rfl (eff_lenM (f := cInt) (l := a0) rfl Tryz.underlying51 rfl) rfl ?_;refine st rfl rfl (eff_moveg rfl rfl) rfl ?_;refine st rfl rfl (eff_lenM (f := cInt) (l := a1) rfl Tryz.underlying51 rfl) rfl ?_;refine st rfl rfl (eff_neq rfl rfl rfl) rfl ?_;refine st_nil ?_;refine aw_cond _ rfl (fun h1 => ?_) (fun h1 => ?_)
 ·replace h1 : (decide ((List.length a0 : Int) ≠ (List.length a1 : Int))) = true := h1;replace hR := condT hR h1;(try simp only [Bool.or_eq_true, Bool.and_eq_true, Bool.or_eq_false_iff, Bool.and_eq_false_iff, Bool.not_eq_true', Bool.not_eq_false', decide_eq_true_eq, decide_eq_false_iff_not] at h1);refine aw_seq ?_;refine aw_region [.p] ?_;refine st rfl rfl (eff_assigng rfl rfl) rfl ?_;refine st_nil ?_;refine aw_ret ?_;obtain rfl := Option.some.inj hR;exact res_c rfl (rv_g rfl)
 ·replace h1 : (decide ((List.length a0 : Int) ≠ (List.length a1 : Int))) = false := h1;replace hR := condF hR h1;(try simp only [Bool.or_eq_true, Bool.and_eq_true, Bool.or_eq_false_iff, Bool.and_eq_false_iff, Bool.not_eq_true', Bool.not_eq_false', decide_eq_true_eq, decide_eq_false_iff_not] at h1);refine aw_skip ?_;refine aw_seq ?_;refine aw_seq ?_;refine aw_region [.p] ?_;refine st rfl rfl (eff_assigng rfl rfl) rfl ?_;refine st_nil ?_;refine aw_block ?_;refine aw_loop_g (γ := Nat × (List Int)) (fun g => ([(0, .g (G.sl 1 (List.map cInt a0))), (1, .g (G.sl 1 (List.map cInt a1))), (5, .g (G.int ((g.1 : Nat) : Int)))], [])) (fun g => a0.drop g.1 = g.2 ∧ s83_l1 a1 g.2 g.1 = some R) (fun g => List.length g.2) ⟨rfl, (0, a0), ⟨rfl, rfl, rfl, trivial⟩, trivial, rfl, ⟨rfl, hR⟩, trivial⟩ ?_
  ·rintro ⟨k2, t4⟩ ⟨hd, hR⟩;replace hd : a0.drop k2 = t4 := hd;replace hR : s83_l1 a1 t4 k2 = some R := hR;refine aw_seq ?_;refine aw_seq ?_;refine aw_region [.p, .p, .p, .p] ?_;refine st rfl rfl (eff_moveg rfl rfl) rfl ?_;refine st rfl rfl (eff_moveg rfl rfl) rfl ?_;refine st rfl rfl (eff_lenM (f := cInt) (l := a0) rfl Tryz.underlying51 rfl) rfl ?_;refine st rfl rfl (eff_lss rfl rfl rfl) rfl ?_;refine st_nil ?_;refine len_sl (f := cInt) (l := a0) 0 rfl fun hlz1 => ?_;refine aw_cond _ rfl (fun h2 => ?_) (fun h2 => ?_)
   ·replace h2 : (decide (((k2 : Nat) : Int) < (List.length a0 : Int))) = true := h2;obtain ⟨y3, t4, rfl, hx1, hd⟩ := drop_cons hd (decT h2);replace h2 := decT h2;rw [s83_l1] at hR;(try dsimp only at hR);refine aw_skip ?_;refine aw_seq ?_;refine aw_block ?_;refine aw_seq ?_;obtain ⟨y5, by5, hR⟩ := bindO_inv hR;refine aw_draw [.p, .p, .p, .p, .p, .p, .p, .p, .p] (by kernel_rfl) ?_;refine st rfl rfl (eff_moveg rfl rfl) rfl ?_;refine st rfl rfl (eff_moveg rfl rfl) rfl ?_;refine st rfl rfl (eff_ix (f := cInt) (l := a0) (a := y3) rfl Tryz.underlying51 ty3 rfl rfl (Int.natCast_nonneg _) hx1) rfl ?_;refine st rfl rfl (eff_load rfl ty3 rfl) rfl ?_;refine st rfl rfl (eff_moveg rfl rfl) rfl ?_;refine st rfl rfl (eff_moveg rfl rfl) rfl ?_;refine st rfl rfl (eff_ix (f := cInt) (l := a1) (a := y5) rfl Tryz.underlying51 ty3 rfl rfl (ixO_nn by5) (ixO_get by5)) rfl ?_;refine st rfl rfl (eff_load rfl ty3 rfl) rfl ?_;refine st rfl rfl (eff_neq rfl rfl rfl) rfl ?_;refine st_nil ?_;refine aw_cond _ rfl (fun h4 => ?_) (fun h4 => ?_)
    ·replace h4 : (decide (y3 ≠ y5)) = true := h4;replace hR := condT hR h4;(try simp only [Bool.or_eq_true, Bool.and_eq_true, Bool.or_eq_false_iff, Bool.and_eq_false_iff, Bool.not_eq_true', Bool.not_eq_false', decide_eq_true_eq, decide_eq_false_iff_not] at h4);refine aw_seq ?_;refine aw_region [.p] ?_;refine st rfl rfl (eff_assigng rfl rfl) rfl ?_;refine st_nil ?_;refine aw_ret ?_;obtain rfl := Option.some.inj hR;exact res_c rfl (rv_g rfl)
    ·replace h4 : (decide (y3 ≠ y5)) = false := h4;replace hR := condF hR h4;(try simp only [Bool.or_eq_true, Bool.and_eq_true, Bool.or_eq_false_iff, Bool.and_eq_false_iff, Bool.not_eq_true', Bool.not_eq_false', decide_eq_true_eq, decide_eq_false_iff_not] at h4);refine aw_skip ?_;refine aw_region [.p, .p, .p] ?_;refine st rfl rfl (eff_moveg rfl rfl) rfl ?_;refine st rfl rfl (eff_add rfl rfl rfl (by unfold I64; omega)) rfl ?_;refine st rfl rfl (eff_assigng rfl rfl) rfl ?_;refine st_nil ?_;exact ⟨rfl, (k2 + 1, t4), ⟨rfl, rfl, rfl, trivial⟩, trivial, rfl, ⟨hd, hR⟩, by simp⟩
   ·replace h2 : (decide (((k2 : Nat) : Int) < (List.length a0 : Int))) = false := h2;obtain rfl := drop_nil hd (decF h2);rw [s83_l1] at hR;refine aw_exit ?_;refine aw_seq ?_;refine aw_region [.p] ?_;refine st rfl rfl (eff_assigng rfl rfl) rfl ?_;refine st_nil ?_;refine aw_ret ?_;obtain rfl := Option.some.inj hR;exact res_c rfl (rv_g rfl)
def s1061_j1 (rec1 : Nat → Int → Bool) (k3 : Nat) (x6 : Int) : Bool :=
 rec1 (k3 + 1) x6
def s1061_l1 (a1 : List S1124) (a2 : Int) (a3 : S1106) : List S1122 → Nat → Int → Bool
 | [], k3, x1 => decide (x1 < (s1125 a1 a2 a3.Moment a3.Size))
 | y4 :: t5, k3, x1 => (bif decide (a3.Size ≤ y4.Size) then s1061_j1 (fun k_ z0_ => s1061_l1 a1 a2 a3 t5 k_ z0_) k3 (IntKind.i64.wrap (x1 + 1)) else s1061_j1 (fun k_ z0_ => s1061_l1 a1 a2 a3 t5 k_ z0_) k3 x1)
def s1061 (a0 : List S1122) (a1 : List S1124) (a2 : Int) (a3 : S1106) : Bool :=
 s1061_l1 a1 a2 a3 a0 0 0
def s1036_l2 (rec1 : Nat → Option Int) (a1 : List S1124) (a2 : Int) (a3 : List Int) (k2 : Nat) (y3 : S1124) : Nat → Int → Option Int
 | 0, x9 => rec1 (k2 + 1)
 | k11 + 1, x9 => bindO (ixO a3 x9) fun y12 => bindO (ixO a3 ((k2 : Nat) : Int)) fun y13 => bindO (bif decide (y12 = y13) then ixO a1 x9 else some default) fun y14 => (bif (decide (y12 = y13)) && (s1070 y14 y3 a2) then some 15 else s1036_l2 rec1 a1 a2 a3 k2 y3 k11 (x9 + 1))
def s1036_l1 (a0 : List S1122) (a1 : List S1124) (a2 : Int) (a3 : List Int) : List S1124 → Nat → Option Int
 | [], k2 => some 0
 | y3 :: t4, k2 => bindO (ixO a3 ((k2 : Nat) : Int)) fun y5 => bindO (bif !(decide (y5 < 0)) then ixO a3 ((k2 : Nat) : Int) else some default) fun y6 => (bif (decide (y5 < 0)) || (decide ((List.length a0 : Int) ≤ y6)) then some 10 else bindO (ixO a3 ((k2 : Nat) : Int)) fun y7 => bindO (ixO a0 y7) fun y8 => (bif !(s1068 y8 y3) then some 18 else s1036_l2 (fun k_ => s1036_l1 a0 a1 a2 a3 t4 k_) a1 a2 a3 k2 y3 ((((k2 : Nat) : Int) - 0).toNat) 0))
def s1036 (a0 : List S1122) (a1 : List S1124) (a2 : Int) (a3 : List Int) : Option Int :=
 (bif decide ((List.length a3 : Int) ≠ (List.length a1 : Int)) then some 2 else s1036_l1 a0 a1 a2 a3 a1 0)
def s1055 (a0 : List S1122) (a1 : List S1124) (a2 : Int) (a3 : S1106) : Int :=
 (s1085 [(s1104 a0 a1 a2), (s1098 a3.Moment), (s1088 a3.Size 1 9), (s1086 (!(s1122 a0 a1 a2 a3)) 21)])
theorem c1055 {g : List (Nat × List Value)} (a0 : List S1122) (a1 : List S1124) (a2 : Int) (a3 : S1106)    : Con (EG g) 55 [G.sl 3 (List.map S1122.c a0), G.sl 5 (List.map S1124.c a1), G.int a2, G.agg [G.int a3.Moment, G.int a3.Size]] (G.int (s1055 a0 a1 a2 a3)) := by
 generalize hR : s1055 a0 a1 a2 a3 = R;unfold s1055 at hR;refine con_of_aw Tryz.func55 rfl rfl fun w0 M0 => ?_;refine len_sl (f := S1122.c) (l := a0) 0 rfl fun hla0 => ?_;refine len_sl (f := S1124.c) (l := a1) 1 rfl fun hla1 => ?_;refine aw_seq ?_;refine aw_region [.p, .p] ?_;refine st rfl rfl (eff_box rfl rfl) rfl ?_;refine st rfl rfl (eff_assigng rfl rfl) rfl ?_;refine st_nil ?_;refine aw_seq ?_;refine aw_draw [.p, .p, .p, .p, .p, .p, .p, .p, .p, .p, .p, .p, .p, .p, .p, .p, .p, .p, .p, .p] (by kernel_rfl) ?_;refine st rfl rfl (eff_moveg rfl rfl) rfl ?_;refine st rfl rfl (eff_moveg rfl rfl) rfl ?_;refine st rfl rfl (eff_moveg rfl rfl) rfl ?_;refine st rfl rfl (eff_call rfl K1104 rfl (c1104 a0 a1 a2) (ag_cons rfl (ag_cons rfl (ag_cons rfl ag_nil)))) rfl ?_;refine st rfl rfl (eff_fieldAddr rfl fl1107_0 rfl) rfl ?_;refine st rfl rfl (eff_load rfl ty3 rfl) rfl ?_;refine st rfl rfl (eff_call rfl K1098 rfl (c1098 a3.Moment) (ag_cons rfl ag_nil)) rfl ?_;refine st rfl rfl (eff_fieldAddr rfl fl1107_1 rfl) rfl ?_;refine st rfl rfl (eff_load rfl ty3 rfl) rfl ?_;refine st rfl rfl (eff_call rfl K1088 rfl (c1088 a3.Size 1 9) (ag_cons rfl (ag_cons rfl (ag_cons rfl ag_nil)))) rfl ?_;refine st rfl rfl (eff_moveg rfl rfl) rfl ?_;refine st rfl rfl (eff_moveg rfl rfl) rfl ?_;refine st rfl rfl (eff_moveg rfl rfl) rfl ?_;refine st rfl rfl (eff_loadA rfl ty1107 rfl rfl rfl) rfl ?_;refine st rfl rfl (eff_call rfl K1122 rfl (c1122 a0 a1 a2 a3) (ag_cons rfl (ag_cons rfl (ag_cons rfl (ag_cons rfl ag_nil))))) rfl ?_;refine st rfl rfl (eff_not rfl rfl) rfl ?_;refine st rfl rfl (eff_call rfl K1086 rfl (c1086 (!(s1122 a0 a1 a2 a3)) 21) (ag_cons rfl (ag_cons rfl ag_nil))) rfl ?_;refine st rfl rfl (eff_buildSlice rfl Tryz.underlying222 ty37 z37 rfl (ps_cons rfl (ps_cons rfl (ps_cons rfl (ps_cons rfl ps_nil)))) rfl (by simp []) (by decide)) rfl ?_;refine st rfl rfl (eff_call rfl K1085 rfl (c1085 [(s1104 a0 a1 a2), (s1098 a3.Moment), (s1088 a3.Size 1 9), (s1086 (!(s1122 a0 a1 a2 a3)) 21)]) (ag_cons rfl ag_nil)) rfl ?_;refine st rfl rfl (eff_assigng rfl rfl) rfl ?_;refine st_nil ?_;refine aw_ret ?_;subst hR;exact res_c rfl (rv_g rfl)
theorem len1196_l2 (rec1 : Int → List Int → Option (List Int)) (hrec : ∀ x l r, rec1 x l = some r → r.length = l.length) (a1 : Int) (x1 : Int) : ∀ (k : Nat) (x : Int) (l r : List Int), s1196_l2 rec1 a1 x1 k x l = some r → r.length = l.length
 | 0, _, _, _, h => by rw [s1196_l2] at h; cases h
 | k + 1, x, l, r, h => by
  rw [s1196_l2] at h;obtain ⟨y1, _, h⟩ := bindO_inv h;obtain ⟨y2, _, h⟩ := bindO_inv h
  cases hc : (decide (a1 < x) && s1194 y1 y2) with
  | true =>
   have h := condT h hc;obtain ⟨y4, _, h⟩ := bindO_inv h;obtain ⟨y5, _, h⟩ := bindO_inv h;obtain ⟨y6, _, h⟩ := bindO_inv h;obtain ⟨y7, _, h⟩ := bindO_inv h;have := len1196_l2 rec1 hrec a1 x1 k _ _ _ h
   simpa using this
  | false => exact hrec _ _ _ (condF h hc)
theorem len1196_l1 (a1 : Int) : ∀ (k : Nat) (x : Int) (l r : List Int), s1196_l1 a1 k x l = some r → r.length = l.length
 | 0, _, _, _, h => by rw [s1196_l1] at h; cases h; rfl
 | k + 1, x, l, r, h => by
  rw [s1196_l1] at h;exact len1196_l2 _ (fun x l r h => len1196_l1 a1 k x l r h) a1 x _ _ _ _ h
theorem len1196 {a0 : List Int} {a1 a2 : Int} {R : List Int} (h : s1196 a0 a1 a2 = some R) : R.length = a0.length := len1196_l1 _ _ _ _ _ h
section
variable {E : Env} {w0 : World} {M0 : Nat → Prop}
theorem eff_allocV {o : Oper} {mem : Mem} {ev : Operand → TV} {t : TypeId} {zs : List Value} {N k : Nat} {c : List G} (id : Nat) (ho : o.op = .alloc t) (hz : zeroK E.P t = some zs) (hz1 : zs.all Value.oneCell' = true) (hN : N ≤ maxLen)
  (hc : zs.map G.lit = (List.replicate N c).flatten) (hk : c.length = k) (hf : lookO mem id = none) :
  EffW E o mem ev (.eptr id k 0 0) ((id, .arr t k (List.replicate N c)) :: mem) none := by
 intro w0 M0 ρ w e hm _;have hr0 := rho_none hm hf;have hg := Grow.alloc w (.cells zs.toArray t)
 have hM : ∀ b, b < w.heap.size → owned M0 (rhoSet ρ id (some ⟨w.heap.size, 0, N⟩)) b → owned M0 ρ b := by
  rintro b hb (h | ⟨i, o, h, rfl⟩)
  ·exact .inl h
  ·by_cases hi : i = id
   ·subst hi; rw [rhoSet_same] at h; cases h; simp at hb
   ·exact .inr ⟨i, o, by simpa [rhoSet, hi] using h, rfl⟩
 have hzf : Fits w (owned M0 ρ) (List.replicate N c).flatten zs := by rw [← hc]; exact fits_lits (fun v hv => List.all_eq_true.1 hz1 v hv)
 have hzl : zs.length = N * k := by rw [hzf.length]; simp [hk]
 have hrun : (execOp e o).run E.P w = .ok (.value (.pointer (some ⟨w.heap.size, 0, none⟩))) (w.alloc (.cells zs.toArray t)) := by
  simp [execOp, ho, run_alloc hz]
 rw [hrun];obtain ⟨g1, g2⟩ := mrel_upd (id := id) (x := some ⟨w.heap.size, 0, N⟩) (blk' := .arr t k (List.replicate N c)) none hm (diff_alloc ρ id w (.cells zs.toArray t)) (fun o ho => by cases ho; exact ⟨.inl (Nat.le_refl _), by simp⟩) (.inr ⟨rfl, .inl hr0⟩) (fun _ b _ _ => noref_none b) (.inl rfl)
  (.inr ⟨⟨w.heap.size, 0, N⟩, _, rhoSet_same _ _ _, heap_alloc_new w _, by simp, hN, .inr (by show 0 + N * k ≤ _; simp [hzl]), fun d hd => by
   rw [List.eq_of_mem_replicate hd]; exact hk, by
   show Fits _ _ _ ((List.drop 0 _).take _);rw [List.drop_zero, List.length_replicate, List.take_of_length_le (by simp [hzl])]
   exact hzf.mono hg.hh hM⟩)
 exact ⟨_, g1, g2, ⟨w.heap.size, 0, N⟩, rhoSet_same _ _ _, by simp⟩
theorem eff_indexV {o : Oper} {ev : Operand → TV} {t el : TypeId} {x ix : Operand} {k id N : Nat} {b : Bool} {kk : IntKind} {n : Int} (ho : o.op = .indexAddr t x ix)
  (ht : E.P.underlying t = some (.array N el)) (he : tyK E.P el = some (k, b)) (hx : ev x = .eptr id k 0 0) (hi' : ev ix = .g (.lit (.int kk n))) (h0 : 0 ≤ n) (hn : n.toNat < N) (mem : Mem) :
  Eff E o mem ev (.eptr id k n.toNat 0) :=
 eff_same (fun w M ρ e' hev => by
  have h1 := hev x (by rw [ho]; simp [Op.operands]);rw [hx] at h1;have h2 := hev ix (by rw [ho]; simp [Op.operands]);rw [hi'] at h2;have h2' : e' ix = .int kk n := h2;obtain ⟨ow, g1, g2⟩ := h1
  have hn' : n < (N : Int) := by omega
  refine ⟨.pointer (some ⟨ow.b, ow.o + n.toNat * k, none⟩), ?_, ow, g1, by simp⟩;simp only [execOp, ho, g2, h2']
  simp [Instr.indexAt, asIntOf, underlying, ht, run_sizeOf he, h0, hn', Instr.sureAddr, Addr.add_lit]) mem
theorem flat_lenK {k : Nat} : ∀ {xs : List (List G)}, (∀ c ∈ xs, c.length = k) → xs.flatten.length = xs.length * k
 | [], _ => by simp
 | c :: xs, h => by
  rw [List.flatten_cons, List.length_append, flat_lenK (fun d hd => h d (List.mem_cons_of_mem _ hd)), h c List.mem_cons_self, List.length_cons, Nat.succ_mul]; omega
theorem eff_loadV {o : Oper} {mem : Mem} {ev : Operand → TV} {t e : TypeId} {x : Operand} {kk id k : Nat} {xs : List (List G)} (ho : o.op = .load t x) (ht : tyK E.P t = some (kk, true)) (hx : ev x = .eptr id k 0 0) (hb : lookO mem id = some (.arr e k xs)) (hk : kk = xs.length * k) : Eff E o mem ev (.g (.agg xs.flatten)) := by
 intro w0 M0 ρ w e' hm he;have h1 := he x (by rw [ho]; simp [Op.operands]);rw [hx] at h1;obtain ⟨ow, h2, h3⟩ := h1
 rcases hm.blk id _ hb with ⟨q1, _⟩ | ⟨ow', cur, q1, q2, q3, q4, q5, q6, q7⟩
 ·rw [h2] at q1; cases q1
 have : ow' = ow := by rw [h2] at q1; simpa using q1.symm
 subst this
 have hlen : ((cur.toList.drop ow'.o).take (xs.length * k)).length = xs.length * k := by rw [q7.length, flat_lenK q6]
 have g2 : ∀ (j : Nat) v, ((cur.toList.drop ow'.o).take (xs.length * k))[j]? = some v → w.cell? ⟨ow'.b, ow'.o + j, none⟩ = some v := by
  intro j v hj;rw [cell_of_row w _ _ _ _ _ q2];rw [List.getElem?_take] at hj
  split at hj
  ·rw [List.getElem?_drop] at hj; simpa using hj
  ·cases hj
 have hrun : (execOp e' o).run E.P w = .ok (.value (.agg ((cur.toList.drop ow'.o).take (xs.length * k)).toArray)) w := by
  simp only [Nat.zero_mul, Nat.add_zero] at h3
  simp [execOp, ho, h3, Instr.loadAt, Instr.sureAddr, run_loadVar_agg ht (hlen.trans hk.symm) g2]
 rw [hrun];exact ⟨Grow.refl w, _, rfl, q7⟩
end
theorem drop_get {α : Type} {l : List α} {a : Nat} {i : Int} {y : α} (h : ixO (l.drop a) i = some y) : l[a + i.toNat]? = some y := by
 have := ixO_get h
 rwa [List.getElem?_drop] at this
theorem drop_lt {α : Type} {l : List α} {a N : Nat} {i : Int} {y : α} (h : ixO (l.drop a) i = some y) (hN : l.length = N) : i.toNat < N - a := by
 have h1 := drop_get h;have h2 := (List.getElem?_eq_some_iff.1 h1).1
 omega
theorem eff_ixP {E : Env} {o : Oper} {ev : Operand → TV} {t el : TypeId} {x ix : Operand} {k id lo hi : Nat} {b : Bool} {kk : IntKind} {n : Int} (ho : o.op = .indexAddr t x ix)
  (ht : E.P.underlying t = some (.slice el)) (he : tyK E.P el = some (k + 1, b)) (hx : ev x = .osl id (k + 1) lo hi) (hi' : ev ix = .g (.lit (.int kk n))) (h0 : 0 ≤ n) (hn : n.toNat < hi - lo) (mem : Mem) :
  Eff E o mem ev (.eptr id (k + 1) (lo + n.toNat) 0) := eff_indexO ho ht he hx hi' h0 hn
theorem osl_ren {α : Type} {l : List α} {c k N : Nat} (h : l.length = N) : renT [(0, c)] (.osl 0 k 0 l.length) = some (.osl c k 0 N) := by subst h; rfl
end Go.Sim
set_option maxRecDepth 10000
namespace Go.Sim
open Go.Proofs
def s1176_l1 (a0 : List Int) : Nat → Int → Int → Int → Bool → Bool → Option (List Int)
 | 0, _, _, _, _, _ => none
 | k6 + 1, x1, x2, x3, x4, x5 => bindO (s1196 a0 x1 x2) fun r7 => some r7
def s1176 (a0 : List Int) (a1 : Int) (a2 : Int) (a3 : Int) : Option (List Int) :=
 s1176_l1 a0 ((0) + 1) a1 a2 a3 true true
theorem c1176 {g : List (Nat × List Value)} (a0 : List Int) (a1 : Int) (a2 : Int) (a3 : Int) {R : List Int} {N0 : Nat} (hN0 : List.length a0 = N0) (hA : 0 ≤ a1) (hA2 : a1 ≤ 12) (hB0 : 0 ≤ a2) (hB : a2 ≤ 12) (hR : s1176 a0 a1 a2 a3 = some R) : ConB (EG g) 176 [.osl 0 1 0 N0, .g (G.int a1), .g (G.int a2), .g (G.int a3)] [(0, .arr 3 1 (List.map cInt a0))] (G.tup []) [(0, .arr 3 1 (List.map cInt R))] := by
 unfold s1176 at hR;refine conB_of_aw Tryz.func176 rfl rfl rfl fun w0 M0 x => ?_;refine len_osl (f := cInt) (l := a0) 0 rfl fun hla0 => ?_;refine aw_seq ?_;refine aw_region [.p] ?_;refine st rfl rfl (eff_assigng rfl rfl) rfl ?_;refine st_nil ?_;refine aw_seq ?_;refine aw_region [.p] ?_;refine st rfl rfl (eff_assigng rfl rfl) rfl ?_;refine st_nil ?_;refine aw_block ?_;refine aw_loop_g (γ := Nat × Int × Int × Int × Bool × Bool) (fun g => ([(0, .osl 0 1 0 (N0)), (1, .g (G.int g.2.1)), (2, .g (G.int g.2.2.1)), (3, .g (G.int g.2.2.2.1)), (8, .g (G.bool g.2.2.2.2.1)), (9, .g (G.bool g.2.2.2.2.2))], [(0, .arr 3 1 (List.map cInt a0))])) (fun g => 0 < g.1 ∧ 0 ≤ g.2.1 ∧ g.2.1 ≤ 12 ∧ 0 ≤ g.2.2.1 ∧ g.2.2.1 ≤ 12 ∧ s1176_l1 a0 g.1 g.2.1 g.2.2.1 g.2.2.2.1 g.2.2.2.2.1 g.2.2.2.2.2 = some R) (fun g => g.1) ⟨rfl, ((0) + 1, a1, a2, a3, true, true), ⟨rfl, rfl, rfl, rfl, rfl, rfl, trivial⟩, ⟨rfl, trivial⟩, rfl, ⟨Nat.lt_succ_self _, (by first | omega | (dsimp only; omega) | simp), (by first | omega | (dsimp only; omega) | simp), (by first | omega | (dsimp only; omega) | simp), (by first | omega | (dsimp only; omega) | simp), hR⟩, trivial⟩ ?_
 ·rintro ⟨k6, x1, x2, x3, x4, x5⟩ ⟨hk1, iv1_0, iv1_1, iv1_2, iv1_3, hR⟩;replace hk1 : 0 < k6 := hk1;replace hR : s1176_l1 a0 k6 x1 x2 x3 x4 x5 = some R := hR;replace iv1_0 : 0 ≤ x1 := iv1_0;replace iv1_1 : x1 ≤ 12 := iv1_1;replace iv1_2 : 0 ≤ x2 := iv1_2;replace iv1_3 : x2 ≤ 12 := iv1_3;obtain ⟨k6, rfl⟩ : ∃ m, k6 = m + 1 := ⟨k6 - 1, by omega⟩;rw [s1176_l1] at hR;(try dsimp only at hR);refine aw_block ?_;refine aw_seq ?_;refine aw_region [.p, .p, .p, .p] ?_;refine st rfl rfl (eff_moveg rfl rfl) rfl ?_;refine st rfl rfl (eff_moveg rfl rfl) rfl ?_;refine st rfl rfl (eff_sub rfl rfl rfl (by unfold I64; (try dsimp only); omega)) rfl ?_;refine st rfl rfl (eff_assigng rfl rfl) rfl ?_;refine st_nil ?_;refine aw_seq ?_;refine aw_seq ?_;refine aw_region [.p, .p] ?_;refine st rfl rfl (eff_moveg rfl rfl) rfl ?_;refine st rfl rfl (eff_leq rfl rfl rfl) rfl ?_;refine st_nil ?_;refine aw_cond _ rfl (fun h1 => ?_) (fun h1 => ?_)
  ·replace h1 : (decide (x2 - x1 ≤ 12)) = true := h1;(try simp only [Bool.or_eq_true, Bool.and_eq_true, Bool.or_eq_false_iff, Bool.and_eq_false_iff, Bool.not_eq_true', Bool.not_eq_false', decide_eq_true_eq, decide_eq_false_iff_not] at h1);refine aw_seq ?_;obtain ⟨r7, br7, hR⟩ := bindO_inv hR;refine aw_region [.p, .p, .p, .w] ?_;refine st rfl rfl (eff_moveO rfl rfl) rfl ?_;refine st rfl rfl (eff_moveg rfl rfl) rfl ?_;refine st rfl rfl (eff_moveg rfl rfl) rfl ?_;refine st_w rfl rfl (eff_callB1 0 0 rfl K1196 rfl (ConB.lend (c1196 a0 x1 x2 hN0 (by first | assumption | omega | (simp [copyL_len]; done) | (simp [copyL_len]; omega)) (by first | assumption | omega | (simp [copyL_len]; done) | (simp [copyL_len]; omega)) (by first | assumption | omega | (simp [copyL_len]; done) | (simp [copyL_len]; omega)) br7)) (at_cons rfl rfl (at_cons rfl rfl (at_cons rfl rfl at_nil))) rfl rfl rfl) rfl ?_;refine st_nil ?_;refine aw_ret ?_;obtain rfl := Option.some.inj hR;show ResOk _ _ _ _ ∧ MemL _ _;exact ⟨res0 rfl, ⟨rfl, trivial⟩⟩
  ·(try simp only [Bool.or_eq_true, Bool.and_eq_true, Bool.or_eq_false_iff, Bool.and_eq_false_iff, Bool.not_eq_true', Bool.not_eq_false', decide_eq_true_eq, decide_eq_false_iff_not] at h1)
   exfalso; omega
def s1161_j1 (rec2 : Int → Int → (List Int) → Option ((List Int) × Nat)) (x6 : Int) (x10 : Int) (x11 : List Int) : Option ((List Int) × Nat) :=
 rec2 x10 (x6 + 1) x11
def s1161_l2 (a0 : List Int) (x1 : Int) : Nat → Int → Int → (List Int) → Option ((List Int) × Nat)
 | 0, _, _, _ => none
 | k9 + 1, x5, x6, x7 => (bif decide (x6 < (((List.length a0) - (Int.toNat x1) : Nat) : Int)) then bindO (ixO (List.drop (Int.toNat x1) x7) x6) fun y13 => bindO (ixO (List.drop (Int.toNat x1) x7) (x6 - 1)) fun y14 => (bif decide (y13 ≠ y14) then bindO (ixO (List.drop (Int.toNat x1) x7) x6) fun y15 => bindO (ixO x7 x5) fun y16 => s1161_j1 (fun z0_ z1_ z2_ => s1161_l2 a0 x1 k9 z0_ z1_ z2_) x6 (x5 + 1) (List.set x7 (Int.toNat x5) y15) else s1161_j1 (fun z0_ z1_ z2_ => s1161_l2 a0 x1 k9 z0_ z1_ z2_) x6 x5 x7) else some (List.take (Int.toNat x5) x7, Int.toNat x5))
def s1161_l1 (a0 : List Int) : Nat → Int → Option ((List Int) × Nat)
 | 0, _ => none
 | k2 + 1, x1 => (bif decide (x1 < (List.length a0 : Int)) then bindO (ixO a0 x1) fun y3 => bindO (ixO a0 (x1 - 1)) fun y4 => (bif decide (y3 = y4) then s1161_l2 a0 x1 ((((((List.length a0) - (Int.toNat x1) : Nat) : Int) - 1).toNat) + 1) x1 1 a0 else s1161_l1 a0 k2 (x1 + 1)) else some (a0, List.length a0))
def s1161 (a0 : List Int) : Option ((List Int) × Nat) :=
 (bif decide ((List.length a0 : Int) < 2) then some (a0, List.length a0) else s1161_l1 a0 ((((List.length a0 : Int) - 1).toNat) + 1) 1)
theorem c1161 {g : List (Nat × List Value)} (a0 : List Int) {R : (List Int) × Nat}   (hR : s1161 a0 = some R) : ConT (EG g) 161 [.osl 0 1 0 (List.length a0)] 3 1 (List.map cInt a0) (List.map cInt R.1) R.2 := by
 unfold s1161 at hR;refine conT_of_aw Tryz.func161 rfl rfl fun w0 M0 x => ?_;refine len_osl (f := cInt) (l := a0) 0 rfl fun hla0 => ?_;refine aw_seq ?_;refine aw_region [.p] ?_;refine st rfl rfl (eff_assigng rfl rfl) rfl ?_;refine st_nil ?_;refine aw_seq ?_;refine aw_seq ?_;refine aw_region [.p, .p, .p] ?_;refine st rfl rfl (eff_moveO rfl rfl) rfl ?_;refine st rfl rfl (eff_lenO0 rfl Tryz.underlying51 rfl) rfl ?_;refine st rfl rfl (eff_lss rfl rfl rfl) rfl ?_;refine st_nil ?_;refine aw_cond _ rfl (fun h1 => ?_) (fun h1 => ?_)
 ·replace h1 : (decide ((List.length a0 : Int) < 2)) = true := h1;replace hR := condT hR h1;(try simp only [Bool.or_eq_true, Bool.and_eq_true, Bool.or_eq_false_iff, Bool.and_eq_false_iff, Bool.not_eq_true', Bool.not_eq_false', decide_eq_true_eq, decide_eq_false_iff_not] at h1);refine aw_seq ?_;refine aw_region [.p, .p] ?_;refine st rfl rfl (eff_moveO rfl rfl) rfl ?_;refine st rfl rfl (eff_assignO rfl rfl) rfl ?_;refine st_nil ?_;refine aw_ret ?_;obtain rfl := Option.some.inj hR;show (∃ t_, _ ∧ _) ∧ MemL _ _;exact ⟨⟨_, rfl, rfl⟩, rfl, trivial⟩
 ·replace h1 : (decide ((List.length a0 : Int) < 2)) = false := h1;replace hR := condF hR h1;(try simp only [Bool.or_eq_true, Bool.and_eq_true, Bool.or_eq_false_iff, Bool.and_eq_false_iff, Bool.not_eq_true', Bool.not_eq_false', decide_eq_true_eq, decide_eq_false_iff_not] at h1);refine aw_skip ?_;refine aw_seq ?_;refine aw_seq ?_;refine aw_region [.p] ?_;refine st rfl rfl (eff_assigng rfl rfl) rfl ?_;refine st_nil ?_;refine aw_block ?_;refine aw_loop_g (γ := Nat × Int) (fun g => ([(0, .osl 0 1 0 (List.length a0)), (3, .g (G.int g.2))], [(0, .arr 3 1 (List.map cInt a0))])) (fun g => ((List.length a0 : Int) - g.2).toNat < g.1 ∧ 1 ≤ g.2 ∧ g.2 ≤ (List.length a0 : Int) ∧ s1161_l1 a0 g.1 g.2 = some R) (fun g => g.1) ⟨rfl, ((((List.length a0 : Int) - 1).toNat) + 1, 1), ⟨rfl, rfl, trivial⟩, ⟨rfl, trivial⟩, rfl, ⟨Nat.lt_succ_self _, (by first | omega | (dsimp only; omega) | simp), (by first | omega | (dsimp only; omega) | simp), hR⟩, trivial⟩ ?_
  ·rintro ⟨k2, x1⟩ ⟨hk1, iv1_0, iv1_1, hR⟩;replace hk1 : ((List.length a0 : Int) - x1).toNat < k2 := hk1;replace hR : s1161_l1 a0 k2 x1 = some R := hR;replace iv1_0 : 1 ≤ x1 := iv1_0;replace iv1_1 : x1 ≤ (List.length a0 : Int) := iv1_1;obtain ⟨k2, rfl⟩ : ∃ m, k2 = m + 1 := ⟨k2 - 1, by omega⟩;rw [s1161_l1] at hR;(try dsimp only at hR);refine aw_seq ?_;refine aw_seq ?_;refine aw_region [.p, .p, .p, .p] ?_;refine st rfl rfl (eff_moveg rfl rfl) rfl ?_;refine st rfl rfl (eff_moveO rfl rfl) rfl ?_;refine st rfl rfl (eff_lenO0 rfl Tryz.underlying51 rfl) rfl ?_;refine st rfl rfl (eff_lss rfl rfl rfl) rfl ?_;refine st_nil ?_;refine aw_cond _ rfl (fun h2 => ?_) (fun h2 => ?_)
   ·replace h2 : (decide (x1 < (List.length a0 : Int))) = true := h2;replace hR := condT hR h2;(try simp only [Bool.or_eq_true, Bool.and_eq_true, Bool.or_eq_false_iff, Bool.and_eq_false_iff, Bool.not_eq_true', Bool.not_eq_false', decide_eq_true_eq, decide_eq_false_iff_not] at h2);refine aw_skip ?_;refine aw_seq ?_;refine aw_block ?_;refine aw_seq ?_;obtain ⟨y3, by3, hR⟩ := bindO_inv hR;obtain ⟨y4, by4, hR⟩ := bindO_inv hR;refine aw_draw [.p, .p, .p, .r, .p, .p, .p, .p, .r, .p] (by kernel_rfl) ?_;refine st rfl rfl (eff_moveO rfl rfl) rfl ?_;refine st rfl rfl (eff_moveg rfl rfl) rfl ?_;refine st rfl rfl (eff_ixL rfl Tryz.underlying51 ty3 rfl rfl (ixO_nn by3) (Nat.lt_of_lt_of_eq (get_lt (ixO_get by3)) rfl)) rfl ?_;refine st_r rfl rfl (eff_ldE (f := cInt) (l := a0) (a := y3) rfl ty3 rfl rfl (ixO_get by3) rfl) rfl ?_;refine st rfl rfl (eff_moveO rfl rfl) rfl ?_;refine st rfl rfl (eff_moveg rfl rfl) rfl ?_;refine st rfl rfl (eff_sub rfl rfl rfl (by unfold I64; (try dsimp only); omega)) rfl ?_;refine st rfl rfl (eff_ixL rfl Tryz.underlying51 ty3 rfl rfl (ixO_nn by4) (Nat.lt_of_lt_of_eq (get_lt (ixO_get by4)) rfl)) rfl ?_;refine st_r rfl rfl (eff_ldE (f := cInt) (l := a0) (a := y4) rfl ty3 rfl rfl (ixO_get by4) rfl) rfl ?_;refine st rfl rfl (eff_eql rfl rfl rfl) rfl ?_;refine st_nil ?_;refine aw_cond _ rfl (fun h3 => ?_) (fun h3 => ?_)
    ·replace h3 : (decide (y3 = y4)) = true := h3;replace hR := condT hR h3;(try simp only [Bool.or_eq_true, Bool.and_eq_true, Bool.or_eq_false_iff, Bool.and_eq_false_iff, Bool.not_eq_true', Bool.not_eq_false', decide_eq_true_eq, decide_eq_false_iff_not] at h3);refine aw_seq ?_;refine aw_region [.p, .p, .p, .p] ?_;refine st rfl rfl (eff_moveO rfl rfl) rfl ?_;refine st rfl rfl (eff_moveg rfl rfl) rfl ?_;refine st rfl rfl (eff_slO (a := Int.toNat x1) (c := List.length a0) rfl Tryz.underlying51 ty3 rfl (bnd_some rfl (by omega)) bnd_none (by omega) (by omega)) rfl ?_;refine st rfl rfl (eff_assignO rfl rfl) rfl ?_;refine st_nil ?_;refine aw_seq ?_;refine aw_seq ?_;refine aw_region [.p] ?_;refine st rfl rfl (eff_assigng rfl rfl) rfl ?_;refine st_nil ?_;refine aw_block ?_;refine aw_loop_g (γ := Nat × Int × Int × (List Int)) (fun g => ([(0, .osl 0 1 0 (List.length a0)), (3, .g (G.int g.2.1)), (4, .osl 0 1 (Int.toNat x1) (List.length a0)), (5, .g (G.int g.2.2.1))], [(0, .arr 3 1 (List.map cInt g.2.2.2))])) (fun g => ((((List.length a0) - (Int.toNat x1) : Nat) : Int) - g.2.2.1).toNat < g.1 ∧ 1 ≤ g.2.1 ∧ 1 ≤ g.2.2.1 ∧ g.2.1 ≤ x1 + g.2.2.1 - 1 ∧ x1 + g.2.2.1 ≤ (List.length a0 : Int) ∧ List.length g.2.2.2 = List.length a0 ∧ s1161_l2 a0 x1 g.1 g.2.1 g.2.2.1 g.2.2.2 = some R) (fun g => g.1) ⟨rfl, ((((((List.length a0) - (Int.toNat x1) : Nat) : Int) - 1).toNat) + 1, x1, 1, a0), ⟨rfl, rfl, rfl, rfl, trivial⟩, ⟨rfl, trivial⟩, rfl, ⟨Nat.lt_succ_self _, (by first | omega | (dsimp only; omega) | simp), (by first | omega | (dsimp only; omega) | simp), (by first | omega | (dsimp only; omega) | simp), (by first | omega | (dsimp only; omega) | simp), rfl, hR⟩, trivial⟩ ?_
     ·rintro ⟨k9, x5, x6, x7⟩ ⟨hk2, iv2_0, iv2_1, iv2_2, iv2_3, ln8, hR⟩;replace hk2 : ((((List.length a0) - (Int.toNat x1) : Nat) : Int) - x6).toNat < k9 := hk2;replace hR : s1161_l2 a0 x1 k9 x5 x6 x7 = some R := hR;replace iv2_0 : 1 ≤ x5 := iv2_0;replace iv2_1 : 1 ≤ x6 := iv2_1;replace iv2_2 : x5 ≤ x1 + x6 - 1 := iv2_2;replace iv2_3 : x1 + x6 ≤ (List.length a0 : Int) := iv2_3;replace ln8 : List.length x7 = List.length a0 := ln8;obtain ⟨k9, rfl⟩ : ∃ m, k9 = m + 1 := ⟨k9 - 1, by omega⟩;rw [s1161_l2] at hR;(try dsimp only at hR);refine aw_seq ?_;refine aw_seq ?_;refine aw_region [.p, .p, .p, .p] ?_;refine st rfl rfl (eff_moveg rfl rfl) rfl ?_;refine st rfl rfl (eff_moveO rfl rfl) rfl ?_;refine st rfl rfl (eff_lenO rfl Tryz.underlying51 rfl) rfl ?_;refine st rfl rfl (eff_lss rfl rfl rfl) rfl ?_;refine st_nil ?_;refine aw_cond _ rfl (fun h4 => ?_) (fun h4 => ?_)
      ·replace h4 : (decide (x6 < (((List.length a0) - (Int.toNat x1) : Nat) : Int))) = true := h4;replace hR := condT hR h4;(try simp only [Bool.or_eq_true, Bool.and_eq_true, Bool.or_eq_false_iff, Bool.and_eq_false_iff, Bool.not_eq_true', Bool.not_eq_false', decide_eq_true_eq, decide_eq_false_iff_not] at h4);refine aw_skip ?_;refine aw_cut_g (γ := Int × (List Int)) (fun g => ([(0, .osl 0 1 0 (List.length a0)), (3, .g (G.int g.1)), (4, .osl 0 1 (Int.toNat x1) (List.length a0)), (5, .g (G.int x6))], [(0, .arr 3 1 (List.map cInt g.2))])) (fun g => 1 ≤ g.1 ∧ g.1 ≤ x1 + x6 ∧ List.length g.2 = List.length a0 ∧ s1161_j1 (fun z0_ z1_ z2_ => s1161_l2 a0 x1 k9 z0_ z1_ z2_) x6 g.1 g.2 = some R) ?_ ?_
       ·refine aw_block ?_;refine aw_seq ?_;obtain ⟨y13, by13, hR⟩ := bindO_inv hR;obtain ⟨y14, by14, hR⟩ := bindO_inv hR;refine aw_draw [.p, .p, .p, .r, .p, .p, .p, .p, .r, .p] (by kernel_rfl) ?_;refine st rfl rfl (eff_moveO rfl rfl) rfl ?_;refine st rfl rfl (eff_moveg rfl rfl) rfl ?_;refine st rfl rfl (eff_ixP rfl Tryz.underlying51 ty3 rfl rfl (ixO_nn by13) (drop_lt by13 ln8)) rfl ?_;refine st_r rfl rfl (eff_ldE (f := cInt) (l := x7) (a := y13) rfl ty3 rfl rfl (drop_get by13) rfl) rfl ?_;refine st rfl rfl (eff_moveO rfl rfl) rfl ?_;refine st rfl rfl (eff_moveg rfl rfl) rfl ?_;refine st rfl rfl (eff_sub rfl rfl rfl (by unfold I64; (try dsimp only); omega)) rfl ?_;refine st rfl rfl (eff_ixP rfl Tryz.underlying51 ty3 rfl rfl (ixO_nn by14) (drop_lt by14 ln8)) rfl ?_;refine st_r rfl rfl (eff_ldE (f := cInt) (l := x7) (a := y14) rfl ty3 rfl rfl (drop_get by14) rfl) rfl ?_;refine st rfl rfl (eff_neq rfl rfl rfl) rfl ?_;refine st_nil ?_;refine aw_cond _ rfl (fun h5 => ?_) (fun h5 => ?_)
        ·replace h5 : (decide (y13 ≠ y14)) = true := h5;replace hR := condT hR h5;(try simp only [Bool.or_eq_true, Bool.and_eq_true, Bool.or_eq_false_iff, Bool.and_eq_false_iff, Bool.not_eq_true', Bool.not_eq_false', decide_eq_true_eq, decide_eq_false_iff_not] at h5);refine aw_seq ?_;obtain ⟨y15, by15, hR⟩ := bindO_inv hR;obtain ⟨y16, by16, hR⟩ := bindO_inv hR;refine aw_region [.p, .p, .p, .p, .p, .r, .p, .w] ?_;refine st rfl rfl (eff_moveO rfl rfl) rfl ?_;refine st rfl rfl (eff_moveg rfl rfl) rfl ?_;refine st rfl rfl (eff_moveO rfl rfl) rfl ?_;refine st rfl rfl (eff_moveg rfl rfl) rfl ?_;refine st rfl rfl (eff_ixP rfl Tryz.underlying51 ty3 rfl rfl (ixO_nn by15) (drop_lt by15 ln8)) rfl ?_;refine st_r rfl rfl (eff_ldE (f := cInt) (l := x7) (a := y15) rfl ty3 rfl rfl (drop_get by15) rfl) rfl ?_;refine st rfl rfl (eff_ixL rfl Tryz.underlying51 ty3 rfl rfl (ixO_nn by16) (Nat.lt_of_lt_of_eq (get_lt (ixO_get by16)) ln8)) rfl ?_;refine st_wn rfl rfl (eff_setL (f := cInt) (l := x7) (a' := y15) rfl ty3 rfl rfl rfl (Nat.lt_of_lt_of_eq (Nat.lt_of_lt_of_eq (get_lt (ixO_get by16)) ln8) (Eq.symm ln8)) rfl (fun _ => rfl)) ?_;refine st_nil ?_;refine aw_region [.p, .p, .p] ?_;refine st rfl rfl (eff_moveg rfl rfl) rfl ?_;refine st rfl rfl (eff_add rfl rfl rfl (by unfold I64; (try dsimp only); omega)) rfl ?_;refine st rfl rfl (eff_assigng rfl rfl) rfl ?_;refine st_nil ?_;exact ⟨rfl, (x5 + 1, List.set x7 (Int.toNat x5) y15), ⟨(by simp only [List.length_set]; rfl), rfl, rfl, rfl, trivial⟩, ⟨rfl, trivial⟩, rfl, ⟨(by first | omega | (dsimp only; omega) | (simp at *; omega)), (by first | omega | (dsimp only; omega) | (simp at *; omega)), ((List.length_set ..).trans ln8), hR⟩, trivial⟩
        ·replace h5 : (decide (y13 ≠ y14)) = false := h5;replace hR := condF hR h5;(try simp only [Bool.or_eq_true, Bool.and_eq_true, Bool.or_eq_false_iff, Bool.and_eq_false_iff, Bool.not_eq_true', Bool.not_eq_false', decide_eq_true_eq, decide_eq_false_iff_not] at h5);refine aw_skip ?_;exact ⟨rfl, (x5, x7), ⟨rfl, rfl, rfl, rfl, trivial⟩, ⟨rfl, trivial⟩, rfl, ⟨(by first | omega | (dsimp only; omega) | (simp at *; omega)), (by first | omega | (dsimp only; omega) | (simp at *; omega)), ln8, hR⟩, trivial⟩
       ·rintro ⟨x10, x11⟩ ⟨jv1_0, jv1_1, ln12, hR⟩;replace jv1_0 : 1 ≤ x10 := jv1_0;replace jv1_1 : x10 ≤ x1 + x6 := jv1_1;replace ln12 : List.length x11 = List.length a0 := ln12;replace hR : s1161_j1 (fun z0_ z1_ z2_ => s1161_l2 a0 x1 k9 z0_ z1_ z2_) x6 x10 x11 = some R := hR;unfold s1161_j1 at hR;refine aw_region [.p, .p, .p] ?_;refine st rfl rfl (eff_moveg rfl rfl) rfl ?_;refine st rfl rfl (eff_add rfl rfl rfl (by unfold I64; (try dsimp only); omega)) rfl ?_;refine st rfl rfl (eff_assigng rfl rfl) rfl ?_;refine st_nil ?_;exact ⟨rfl, (k9, x10, x6 + 1, x11), ⟨rfl, rfl, rfl, rfl, trivial⟩, ⟨rfl, trivial⟩, rfl, ⟨(by first | omega | (dsimp only; omega) | (simp at *; omega)), (by first | omega | (dsimp only; omega) | (simp at *; omega)), (by first | omega | (dsimp only; omega) | (simp at *; omega)), (by first | omega | (dsimp only; omega) | (simp at *; omega)), (by first | omega | (dsimp only; omega) | (simp at *; omega)), ln12, hR⟩, by simp⟩
      ·replace h4 : (decide (x6 < (((List.length a0) - (Int.toNat x1) : Nat) : Int))) = false := h4;replace hR := condF hR h4;(try simp only [Bool.or_eq_true, Bool.and_eq_true, Bool.or_eq_false_iff, Bool.and_eq_false_iff, Bool.not_eq_true', Bool.not_eq_false', decide_eq_true_eq, decide_eq_false_iff_not] at h4);refine aw_exit ?_;refine aw_seq ?_;refine aw_region [.p, .p, .p, .w] ?_;refine st rfl rfl (eff_moveO rfl rfl) rfl ?_;refine st rfl rfl (eff_moveg rfl rfl) rfl ?_;refine st rfl rfl (eff_slO (a := Int.toNat x5) (c := List.length a0) rfl Tryz.underlying51 ty3 rfl (bnd_some rfl (by omega)) bnd_none (by omega) (by omega)) rfl ?_;refine st_wn rfl rfl (eff_clearO (f0 := cInt) (l := x7) (a := Int.toNat x5) rfl Tryz.underlying51 z3 rfl ln8 rfl rfl rfl) ?_;refine st_nil ?_;refine aw_seq ?_;refine aw_region [.p, .p, .p, .p] ?_;refine st rfl rfl (eff_moveO rfl rfl) rfl ?_;refine st rfl rfl (eff_moveg rfl rfl) rfl ?_;refine st rfl rfl (eff_slO (a := 0) (c := Int.toNat x5) rfl Tryz.underlying51 ty3 rfl bnd_none (bnd_some rfl (by omega)) (by omega) (by omega)) rfl ?_;refine st rfl rfl (eff_assignO rfl rfl) rfl ?_;refine st_nil ?_;refine aw_ret ?_;obtain rfl := Option.some.inj hR;show (∃ t_, _ ∧ _) ∧ MemL _ _;exact ⟨⟨_, rfl, rfl⟩, rfl, trivial⟩
    ·replace h3 : (decide (y3 = y4)) = false := h3;replace hR := condF hR h3;(try simp only [Bool.or_eq_true, Bool.and_eq_true, Bool.or_eq_false_iff, Bool.and_eq_false_iff, Bool.not_eq_true', Bool.not_eq_false', decide_eq_true_eq, decide_eq_false_iff_not] at h3);refine aw_skip ?_;refine aw_region [.p, .p, .p] ?_;refine st rfl rfl (eff_moveg rfl rfl) rfl ?_;refine st rfl rfl (eff_add rfl rfl rfl (by unfold I64; (try dsimp only); omega)) rfl ?_;refine st rfl rfl (eff_assigng rfl rfl) rfl ?_;refine st_nil ?_;exact ⟨rfl, (k2, x1 + 1), ⟨rfl, rfl, trivial⟩, ⟨rfl, trivial⟩, rfl, ⟨(by first | omega | (dsimp only; omega) | (simp at *; omega)), (by first | omega | (dsimp only; omega) | (simp at *; omega)), (by first | omega | (dsimp only; omega) | (simp at *; omega)), hR⟩, by simp⟩
   ·replace h2 : (decide (x1 < (List.length a0 : Int))) = false := h2;replace hR := condF hR h2;(try simp only [Bool.or_eq_true, Bool.and_eq_true, Bool.or_eq_false_iff, Bool.and_eq_false_iff, Bool.not_eq_true', Bool.not_eq_false', decide_eq_true_eq, decide_eq_false_iff_not] at h2);refine aw_exit ?_;refine aw_seq ?_;refine aw_region [.p, .p] ?_;refine st rfl rfl (eff_moveO rfl rfl) rfl ?_;refine st rfl rfl (eff_assignO rfl rfl) rfl ?_;refine st_nil ?_;refine aw_ret ?_;obtain rfl := Option.some.inj hR;show (∃ t_, _ ∧ _) ∧ MemL _ _;exact ⟨⟨_, rfl, rfl⟩, rfl, trivial⟩
theorem len1176 {a0 : List Int} {a1 a2 a3 : Int} {R : List Int} (h : s1176 a0 a1 a2 a3 = some R) : R.length = a0.length := by
 unfold s1176 at h;rw [s1176_l1] at h;obtain ⟨y1, h1, h⟩ := bindO_inv h
 cases h
 exact len1196 h1
end Go.Sim
