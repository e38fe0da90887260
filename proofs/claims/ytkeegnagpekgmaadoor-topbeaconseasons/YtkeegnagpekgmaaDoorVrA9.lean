/-
  What is proved: lemmas and contracts of functions on the way to the law topBeaconSeasons (part 9).
-/
import Derived.Test.YtkeegnagpekgmaaDoorVrA7
import Derived.Test.YtkeegnagpekgmaaDoorVrA8
import Derived.Test.YtkeegnagpekgmaaDoorVrA5
import Derived.Scope
import Derived.Test.YtkeegnagpekgmaaDoorVrA2
import Derived.Maps.RangeRun
import Derived.RangeFuncBox
import Derived.RangeFuncNested
import Derived.RangeFuncBound
import Derived.RangeFuncCalls
import Derived.RangeFuncLeaves
import Derived.Shelf.Abstract
import Derived.Shelf.RegionOpen
import Derived.WalkKit
import Derived.OwnWalkIn
import Derived.TacticsInMore
import Derived.LoopNIn
import Derived.LoopIn
import Derived.Maps.AppendAt
import Derived.Lib.Hide
import Derived.Stop.RegionWithIn
import Derived.Sort.QuietIn
set_option linter.unusedSectionVars false
set_option linter.unusedSimpArgs false
set_option linter.unusedVariables false
set_option linter.unnecessarySimpa false
set_option linter.deprecated false
namespace Go.Sim
theorem f89_k : ∀ (l : List Int) (k k' : Nat), s89_l1 l k = s89_l1 l k'
 | [], _, _ => rfl
 | x :: l, k, k' => by simp only [s89_l1]; rw [f89_k l (k + 1) (k' + 1)]
theorem s89_nil : s89 [] = 0 := rfl
theorem s89_cons (x : Int) (l : List Int) : s89 (x :: l) = if x = 0 then s89 l else x := by
 unfold s89;simp only [s89_l1];rw [f89_k l (0 + 1) 0]
 by_cases h : x = 0 <;> simp [h]
theorem f1085_k : ∀ (l : List Int) (k : Nat), s1085_l1 l k = s89_l1 l k
 | [], _ => rfl
 | x :: l, k => by simp only [s1085_l1, s89_l1]; rw [f1085_k l (k + 1)]
theorem s1085_eq (l : List Int) : s1085 l = s89 l := f1085_k l 0
theorem f152_k : ∀ (l : List Int) (k : Nat), s152_l1 l k = s89_l1 l k
 | [], _ => rfl
 | x :: l, k => by simp only [s152_l1, s89_l1]; rw [f152_k l (k + 1)]
theorem s152_eq (l : List Int) : s152 l = s89 l := f152_k l 0
theorem s1088_eq (a b c : Int) : s1088 a b c = s90 a b c := rfl
theorem s155_eq (a b c : Int) : s155 a b c = s90 a b c := rfl
theorem s1098_eq (a : Int) : s1098 a = s96 a := rfl
theorem s90_ite (a b c : Int) : s90 a b c = if b ≤ a ∧ a ≤ c then 0 else 3 := by
 unfold s90
 by_cases h1 : a < b <;> by_cases h2 : c < a <;> simp [h1, h2] <;> omega
theorem s1086_ite (b : Bool) (e : Int) : s1086 b e = if b = true then e else 0 := by cases b <;> rfl
theorem s154_ite (b : Bool) (e : Int) : s154 b e = if b = true then e else 0 := by cases b <;> rfl
theorem s1117_eq (n : S1085) : s1117 n = s1051 n := by
 unfold s1117 s1051 s1051_j1;rw [s1085_eq, s1088_eq, s1088_eq, s1086_ite];simp only [s89_cons, s89_nil, decide_eq_true_eq]
 by_cases h1 : s90 n.fFrom 0 1439 = 0 <;> by_cases h2 : s90 n.fTo 0 1439 = 0 <;> by_cases h3 : n.fFrom = n.fTo <;> simp [h1, h2, h3]
 all_goals (subst_vars; simp_all)
theorem s107_eq (s : S67) : s107 s = s41 s := by
 unfold s107 s41 s41_j1;rw [s152_eq, s155_eq, s154_ite];simp only [s89_cons, s89_nil]
 by_cases h1 : s90 s.Year 2000 2272 = 0 <;> by_cases h2 : s.Kind = ⟨#[83]⟩ <;> by_cases h3 : s.Kind = ⟨#[87]⟩ <;> simp [h1, h2, h3]
abbrev kS : ByteArray := ⟨#[83]⟩
abbrev kW : ByteArray := ⟨#[87]⟩
theorem kSW : ¬ kW = kS := by decide
theorem s138_S {y : Int} (h : 2000 ≤ y) (h' : y ≤ 3000) : s138 ⟨y, kS⟩ = some (sun (N3 y)) := by
 unfold s138;rw [decide_eq_true rfl, cond_true, s189_3 h h']; rfl
theorem s138_W {y : Int} (h : 2000 ≤ y) (h' : y ≤ 3000) : s138 ⟨y, kW⟩ = some (sun (N10 y)) := by
 unfold s138;rw [decide_eq_false kSW, cond_false, s189_10 h h']; rfl
def beg (s : S67) : Int := if s.Kind = kS then sun (N3 s.Year) else sun (N10 s.Year)
def nxt (s : S67) : Int := if s.Kind = kS then sun (N10 s.Year) else sun (N3 (s.Year + 1))
def okS (s : S67) : Prop := 2000 ≤ s.Year ∧ s.Year ≤ 2272 ∧ (s.Kind = kS ∨ s.Kind = kW)
theorem Dy_mono {m n : Nat} (h : m ≤ n) : Dy m ≤ Dy n := by
 induction n with
 | zero => rw [Nat.le_zero.1 h]; exact Int.le_refl _
 | succ n ih =>
  have hr := s222_rng (2000 + (n : Int))
  rcases Nat.lt_or_ge n m with h' | h'
  ·have : m = n + 1 := by omega
   rw [this]; exact Int.le_refl _
  ·have := ih h';rw [Dy]; omega
theorem Dy_next (n : Nat) : Dy (n + 1) = Dy n + (365 + lp (2000 + (n : Int))) := by rw [Dy, s222_lp]
theorem s138_ok {s : S67} (h : okS s) : s138 s = some (beg s) := by
 obtain ⟨y, k⟩ := s;obtain ⟨h1, h2, h3⟩ := h;have h1 : 2000 ≤ y := h1;have h2 : y ≤ 2272 := h2
 rcases h3 with h3 | h3
 ·have h3 : k = kS := h3;subst h3;rw [s138_S h1 (by omega)];unfold beg; rw [if_pos rfl]
 ·have h3 : k = kW := h3;subst h3;rw [s138_W h1 (by omega)];unfold beg; rw [if_neg kSW]
theorem s139_ok {s : S67} (h : okS s) : s138 (s139 s) = some (nxt s) := by
 obtain ⟨y, k⟩ := s;obtain ⟨h1, h2, h3⟩ := h;have h1 : 2000 ≤ y := h1;have h2 : y ≤ 2272 := h2
 rcases h3 with h3 | h3
 ·have h3 : k = kS := h3;subst h3
  have e : s139 ⟨y, kS⟩ = ⟨y, kW⟩ := by unfold s139; rw [decide_eq_true rfl, cond_true]
  rw [e, s138_W h1 (by omega)];unfold nxt; rw [if_pos rfl]
 ·have h3 : k = kW := h3;subst h3
  have e : s139 ⟨y, kW⟩ = ⟨y + 1, kS⟩ := by unfold s139; rw [decide_eq_false kSW, cond_false, wrap_i64 ⟨by show _ ≤ y + 1; omega, by show y + 1 ≤ _; omega⟩]
  rw [e, s138_S (by omega) (by omega)];unfold nxt; rw [if_neg kSW]
theorem beg_rng {s : S67} (h : okS s) : 0 ≤ beg s ∧ beg s ≤ 1000000 ∧ 0 ≤ nxt s ∧ nxt s ≤ 99999 := by
 obtain ⟨y, k⟩ := s;obtain ⟨h1, h2, _⟩ := h;have h1 : 2000 ≤ y := h1;have h2 : y ≤ 2272 := h2;have a := N_rng h1 (by omega);have b := N_rng (y := y + 1) (by omega) (by omega);have c1 := sun_rng (N3 y);have c2 := sun_rng (N10 y);have c3 := sun_rng (N3 (y + 1))
 have e0 : (y + 1 - 2000).toNat = (y - 2000).toNat + 1 := by omega
 have d0 := Dy_rng (y - 2000).toNat;have d1 := Dy_next (y - 2000).toNat;have d2 := Dy_mono (show (y - 2000).toNat + 1 ≤ 273 by omega)
 have d3 : Dy 273 = 99712 := by decide +kernel
 have l0 := lp_rng (2000 + ((y - 2000).toNat : Int));have l1 := lp_rng y;have l2 := lp_rng (y + 1);have e1 : N10 y = 303 + lp y + Dy (y - 2000).toNat := rfl;have e2 : N3 (y + 1) = 89 + lp (y + 1) + Dy (y + 1 - 2000).toNat := rfl;rw [e0] at e2;unfold beg nxt
 by_cases hk : k = kS
 ·simp only [hk, if_true]
  omega
 ·simp only [hk, if_false]
  omega
theorem s41_zero (s : S67) : s41 s = 0 ↔ okS s := by
 unfold s41 s41_j1 okS;have h := s90_ite s.Year 2000 2272
 by_cases h1 : s90 s.Year 2000 2272 = 0 <;> by_cases h2 : s.Kind = ⟨#[83]⟩ <;> by_cases h3 : s.Kind = ⟨#[87]⟩ <;> simp [h1, h2, h3] <;> (rw [h] at h1; split at h1 <;> simp_all <;> omega)
theorem s107_ok {s : S67} (h : okS s) : s107 s = 0 := by rw [s107_eq]; exact (s41_zero s).2 h
theorem s70_ok {a1 : S67} (hs : okS a1) : s70 a1 = some (⟨beg a1, nxt a1 - 1, 127⟩, 0) := by
 have b := beg_rng hs;unfold s70;rw [s107_ok hs, decide_eq_false (by decide), cond_false, s138_ok hs, s139_ok hs];simp only [bindO];rw [wrap_i64 ⟨by omega, by omega⟩]
section
variable {E : Env} {w0 : World} {M0 : Nat → Prop}
theorem MFits.get {w : World} {M : Nat → Prop} : ∀ {es : List (Value × G)} {l : List MapEntry} {j : Nat} {e : MapEntry}, MFits w M es l → l[j]? = some e → ∃ k g, es[j]? = some (k, g) ∧ e.key = k ∧ g.p w M e.val
 | [], [], _, _, _, h => by simp at h
 | (k, g) :: _, e' :: _, 0, e, h, he => by
  simp at he; subst he
  exact ⟨k, g, rfl, h.1.1, h.1.2⟩
 | _ :: _, _ :: _, j + 1, e, h, he => by
  obtain ⟨k, g, h1, h2⟩ := MFits.get h.2 (by simpa using he);exact ⟨k, g, by simpa using h1, h2⟩
 | [], _ :: _, _, _, h, _ => h.elim
 | _ :: _, [], _, _, h, _ => h.elim
theorem MFits.length {w : World} {M : Nat → Prop} : ∀ {es : List (Value × G)} {l : List MapEntry}, MFits w M es l → l.length = es.length
 | [], [], _ => rfl
 | (_, _) :: _, _ :: _, h => by simp [MFits.length h.2]
 | [], _ :: _, h => h.elim
 | _ :: _, [], h => h.elim
theorem MFits.keys {w : World} {M : Nat → Prop} : ∀ {es : List (Value × G)} {l : List MapEntry}, MFits w M es l → es.map Prod.fst = l.map (·.key)
 | [], [], _ => rfl
 | (_, _) :: _, _ :: _, h => by
  rw [List.map_cons, List.map_cons, MFits.keys h.2, h.1.1]
 | [], _ :: _, h => h.elim
 | _ :: _, [], h => h.elim
theorem eff_rangeM {o : Oper} {mem : Mem} {ev : Operand → TV} {t kt et : TypeId} {x : Operand} {es : List (Value × G)} (id : Nat) (ho : o.op = .range t x) (ht : E.P.underlying t = some (.map kt et)) (hx : ev x = .g (G.mpf es)) (hf : lookO mem id = none) :
  EffW E o mem ev (.ptr id 0) ((id, .mit es []) :: mem) none := by
 intro w0 M0 ρ w e hm he;have h1 := he x (by rw [ho]; simp [Op.operands]);rw [hx] at h1;obtain ⟨b, en, cl, h1, h2, h3, h4, h5⟩ : (G.mpf es).p w (owned M0 ρ) (e x) := h1;have hlt : b < w.heap.size := (Array.getElem?_eq_some_iff.1 h3).1
 have hrun : (execOp e o).run E.P w = .ok (.value (.pointer (some ⟨w.heap.size, 0, none⟩))) (w.alloc (.mapIter (some b) cl #[] cl)) := by
  simp [execOp, ho, h1, Instr.range, run_underlying ht, MapKept.run_getObj_map h3]
 rw [hrun];have hg := Grow.alloc w (.mapIter (some b) cl #[] cl)
 have hM : ∀ c, c < w.heap.size → owned M0 (rhoSet ρ id (some ⟨w.heap.size, 0, 0⟩)) c → owned M0 ρ c := by
  rintro c hc (h | ⟨i, o, h, rfl⟩)
  ·exact .inl h
  ·by_cases hi : i = id
   ·subst hi; rw [rhoSet_same] at h; cases h; exact absurd hc (Nat.lt_irrefl _)
   ·exact .inr ⟨i, o, by simpa [rhoSet, hi] using h, rfl⟩
 obtain ⟨ρ', k1, k2, k3⟩ := upon_newO (ob := .mapIter (some b) cl #[] cl) (blk := .mit es []) hm hf
  ⟨_, rhoSet_same _ _ _, rfl, b, en, cl, cl, #[], cl, heap_alloc_new w _, fun h => h2 (hM b hlt h), (hg.block b hlt).trans h3, h4.mono hg.hh hM, h5, h5.1, Nat.le_refl _, Nat.le_refl _, fun _ _ _ => by simp, fun _ _ h => by cases h⟩
 exact ⟨ρ', k1, k2, ⟨w.heap.size, 0, 0⟩, k3, rfl⟩
theorem mit_obj {ρ : Rho} {mem : Mem} {w : World} {id : Nat} {es : List (Value × G)} {seen : List Nat} {v : Value} (hm : MRel E w0 M0 ρ mem w) (hb : lookO mem id = some (.mit es seen)) (hv : TRel w (owned M0 ρ) ρ (.ptr id 0) v) :
  ∃ ow, ρ id = some (some ow) ∧ ow.o = 0 ∧ MitR w (owned M0 ρ) es seen ow.b ∧ v = .pointer (some ⟨ow.b, 0, none⟩) := by
 obtain ⟨ow, h1, h2⟩ := hv;obtain ⟨ow', g1, g2, g3⟩ := hm.blk id _ hb
 have : ow' = ow := by rw [h1] at g1; simpa using g1.symm
 subst this;exact ⟨ow', h1, g2, g3, by rw [h2, g2]⟩
theorem eff_entryM {o : Oper} {mem : Mem} {ev : Operand → TV} {i : Operand} {id j : Nat} {seen : List Nat} {es : List (Value × G)} {k : Value} {g : G} (ho : o.op = .entry i) (hi : ev i = .ptr id 0) (hb : lookO mem id = some (.mit es (j :: seen))) (hj : es[j]? = some (k, g)) :
  Eff E o mem ev (.g (.tup [G.lit k, g])) := by
 intro w0 M0 ρ w e hm he;have h1 := he i (by rw [ho]; simp [Op.operands]);rw [hi] at h1;obtain ⟨ow, g1, g2, ⟨mb, en, cl, since, sn, c0, k1, k2, k3, k4, k5, k6, k7, k8, k9, k10⟩, g4⟩ := mit_obj hm hb h1;obtain ⟨rfl, x, hx, hback⟩ := k10 j seen rfl;obtain ⟨k', g', q1, q2, q3⟩ := k4.get hx;rw [hj] at q1
 cases q1
 have hn := ((MapKept.stamped_iff en c0).1 k5).2.1
 have hf : en.find? (·.born == x.born) = some x := by rw [← Array.find?_toList]; exact find_born x en.toList hn (List.mem_of_getElem? hx)
 have hrun : (execOp e o).run E.P w = .ok (.value (.tuple #[x.key, x.val])) w := by
  simp [execOp, ho, g4, Instr.entry, getObj, Sem.run, k1, k3, hback, hf]
 rw [hrun];exact ⟨Grow.refl w, [x.key, x.val], rfl, q2, q3, trivial⟩
theorem mit_push {sn : Array Nat} {a b : Nat} : (sn.push a).contains b = (sn.contains b || b == a) := by
 rw [Bool.eq_iff_iff]; simp
theorem aw_next {id : Nat} {ops : Array Oper} {o : Oper} {os : List Oper} {cs : List Cls} {Q : Exit → ASt → Prop} {s : ASt} {i : Operand} {d bid : Nat} {es : List (Value × G)} {seen : List Nat} (hops : ops.toList = o :: os) (ho : o.op = .next i false) (hg : o.guard = none) (hd : o.dst = some d)
  (hi : s.eval E i = .ptr bid 0) (hb : lookO s.mem bid = some (.mit es seen)) (hn : Nat.blt d s.n = true)
  (hend : (∀ j, j < es.length → j ∈ seen) → (es.map Prod.fst).Nodup → AOps E ops os cs (s.put (some d) (.g (.tup [G.bool false]))) (Q .normal))
  (hmore : ∀ j k g, es[j]? = some (k, g) → j ∉ seen → AOps E ops os cs (ASt.put ⟨s.n, s.tmps, (bid, .mit es (j :: seen)) :: s.mem⟩ (some d) (.g (.tup [G.bool true, G.lit k, g]))) (Q .normal)) : AWp E w0 M0 (.region id ops false) Q s := by
 intro a w ha;refine wpIn_region_list ?_;rw [hops];obtain ⟨ρ, hm, hmk, ht⟩ := ha.ex;have hp := eval_rel hm ht i;rw [hi] at hp;obtain ⟨ow, g1, g2, hmit, g4⟩ := mit_obj hm hb hp;have hmit' := hmit;obtain ⟨mb, en, cl, since, sn, c0, k1, k2, k3, k4, k5, k6, k7, k8, k9, k10⟩ := hmit
 have hw : Region.wanted o (yielded ops a.tmps) = true := by unfold Region.wanted; rw [hg]
 have hnd : ∀ d', o.dst = some d' → d' < s.n := fun d' h => by rw [hd] at h; cases h; exact Nat.le_of_ble_eq_true hn
 show if Region.wanted o (yielded ops a.tmps) then _ else _;rw [hw, if_pos rfl];refine ⟨fun _ _ => trivial, ?_⟩
 have hsem : o.semAt E.F.round a.eval = execOp a.eval o := by
  cases hro : E.F.round with
  | none => rfl
  | some l => exact Oper.semAt_some l _ _ fun c hc => by rw [ho] at hc; cases hc
 rw [hsem];have hlen := k4.length;have hst := (MapKept.stamped_iff en cl).1 k5
 rcases run_next_at (P := E.P) w o.type ow.b mb since c0 sn en cl k1 k3 k6 k7 with ⟨z0, hrun⟩ | ⟨e, he, w1, hal, hrun⟩
 ·have hx : (execOp a.eval o).run E.P w = .ok (.value (.tuple #[.bool false])) w := by simp [execOp, ho, g4, hrun]
  rw [hx];show wpListIn _ _ _ _ _ _ _ _
  have hall : ∀ j, j < es.length → j ∈ seen := by
   intro j hj
   have hj' : j < en.toList.length := by omega
   have h1 := k9 j en.toList[j] (List.getElem?_eq_getElem hj')
   by_cases hc : sn.contains en.toList[j].born = true
   ·rw [hc] at h1; exact of_decide_eq_true h1.symm
   ·exfalso
    have hmem : en.toList[j] ∈ (leftOf en sn).toList := by
     unfold leftOf;simp only [Array.toList_filter, List.mem_filter];exact ⟨List.getElem_mem hj', by simpa using hc⟩
    have hnil : (leftOf en sn).toList = [] := List.eq_nil_of_length_eq_zero (by rw [Array.length_toList]; exact z0);rw [hnil] at hmem
    cases hmem
  have := hend hall (by rw [k4.keys, List.nodup_iff_pairwise_ne, List.pairwise_map]; exact hst.2.2);rw [hd]
  exact aops_sound os cs _ this _ _ (by
   have := ARel.put (kill := none) (dst := some d) (r := .g (.tup [G.bool false])) (v := .tuple #[.bool false]) ha.defers ha.size hmk ht (by rw [← hd]; exact hnd) hm (fun _ _ _ h => h) ⟨[.bool false], rfl, rfl, trivial⟩
   exact this)
 ·have hmem : e ∈ en.toList ∧ sn.contains e.born = false := by
   unfold leftOf at he;simp only [Array.toList_filter, List.mem_filter] at he;exact ⟨he.1, by simpa using he.2⟩
  obtain ⟨j, hj⟩ := List.mem_iff_getElem?.1 hmem.1;obtain ⟨k, g, q1, q2, q3⟩ := k4.get hj
  have hnot : j ∉ seen := by
   have := k9 j e hj;rw [hmem.2] at this;exact of_decide_eq_false this.symm
  have hx : (execOp a.eval o).run E.P w = .ok (.value (.tuple #[.bool true, e.key, e.val])) (ChangeMaps.setBlock w1 ow.b (.mapIter (some mb) since (sn.push e.born) cl)) := by simp [execOp, ho, g4, hrun]
  rw [hx];show wpListIn _ _ _ _ _ _ _ _
  have hw1 : w1.heap = w.heap ∧ w1.os = w.os ∧ w1.tape = w.tape ∧ w1.output = w.output := by rcases hal with rfl | rfl <;> exact ⟨rfl, rfl, rfl, rfl⟩
  have hne : mb ≠ ow.b := by
   intro h; rw [h, k1] at k3; cases k3
  have hlt : ow.b < w.heap.size := (Array.getElem?_eq_some_iff.1 k1).1
  let w2 : World := ChangeMaps.setBlock w1 ow.b (.mapIter (some mb) since (sn.push e.born) cl)
  have hheap : w2.heap = w.heap.setIfInBounds ow.b (.mapIter (some mb) since (sn.push e.born) cl) := by
   show w1.heap.setIfInBounds _ _ = _;rw [hw1.1]
  have hsz : w2.heap.size = w.heap.size := by rw [hheap]; simp
  have hdf : Diff ρ bid w w2 := ⟨hw1.2.1, hw1.2.2.1, hw1.2.2.2, by rw [hsz]; exact Nat.le_refl _, fun b _ hb' => by
   have := hb' ow g1;rw [hheap]
   simp [Array.getElem?_setIfInBounds_ne (Ne.symm this)]⟩
  have hM : ∀ b, owned M0 (rhoSet ρ bid (some ow)) b → owned M0 ρ b := by
   rintro b (h | ⟨i', o', h, rfl⟩)
   ·exact .inl h
   ·by_cases hi' : i' = bid
    ·subst hi'; rw [rhoSet_same] at h; cases h; exact .inr ⟨i', ow, g1, rfl⟩
    ·exact .inr ⟨i', o', by simpa [rhoSet, hi'] using h, rfl⟩
  have hh : ∀ b, b < w.heap.size → ¬ owned M0 ρ b → w2.heap[b]? = w.heap[b]? := fun b hb' hno => hdf.heap b hb' fun o' ho' e' => hno (.inr ⟨bid, o', ho', e'.symm⟩);obtain ⟨m1, m2⟩ := mrel_upd (id := bid) (x := some ow) (blk' := .mit es (j :: seen)) none hm hdf (fun o' ho' => by cases ho'; exact ⟨.inr ⟨ow, g1, rfl⟩, by rw [hsz]; exact hlt⟩) (.inr ⟨rfl, .inr g1⟩) (fun _ b _ _ => noref_none b) (.inl rfl)
   ⟨ow, rhoSet_same _ _ _, g2, mb, en, cl, since, sn.push e.born, cl, by rw [hheap]; simp [hlt], fun h => k2 (hM _ h), by rw [hheap]; rw [Array.getElem?_setIfInBounds_ne (Ne.symm hne)]; exact k3, k4.mono hh (fun b _ => hM b), k5, k6, k8, k8, fun i' e' hi' => by
    rw [mit_push, k9 i' e' hi']
    by_cases hij : i' = j
    ·subst hij;rw [hj] at hi'; cases hi'
     simp
    ·have : (e'.born == e.born) = false := by
      rw [beq_eq_false_iff_ne];intro hbe
      have h1 : i' < (en.toList.map (·.born)).length := by rw [List.length_map]; exact (List.getElem?_eq_some_iff.1 hi').1
      have := (List.getElem?_inj h1 hst.2.1).1 (show (en.toList.map (·.born))[i']? = (en.toList.map (·.born))[j]? by rw [List.getElem?_map, List.getElem?_map, hi', hj]; simp [hbe]);exact hij this
     rw [this, Bool.or_false]
     simp [hij], fun j' r hjr => by
    cases hjr
    exact ⟨rfl, e, hj, by simp⟩⟩
  have := hmore j k g q1 hnot;rw [hd];refine aops_sound os cs _ this _ _ ?_;have := ARel.put (kill := none) (dst := some d) (r := .g (.tup [G.bool true, G.lit k, g])) (v := .tuple #[.bool true, e.key, e.val]) ha.defers ha.size hmk ht (by rw [← hd]; exact hnd) m1 m2 ⟨[.bool true, e.key, e.val], rfl, rfl, q2, g.mono q3 hh (fun b _ => hM b), trivial⟩;exact this
theorem rv_map {s : ASt} {t id : Nat} {es : List (Value × G)} (h : s.get t = .omap id) (hb : lookO s.mem id = some (.mp es)) (hbw : lookO E.bow id = none := by rfl) : RVal E s (.tmp t) (G.mpf es) := by
 intro w0 M0 ρ w tmps hm ht;have h1 := ht t;rw [h] at h1;obtain ⟨ow, en, cl, g1, g2, g3, g4, g5⟩ := look_mp hm hb h1;have hsub := msub_res (M0 := M0) hm (tv := .g (G.bool true)) rfl;exact ⟨tmps.getD t undef, rfl, ⟨ow.b, en, cl, g2, not_lent hm g1 hbw, g3, g4.mono (fun _ _ _ => rfl) (fun b _ => hsub.sub b), g5⟩, fun _ _ => rfl⟩
end
section
variable {α : Type}
def MOrd (m : List α) (sn : List Nat) (l : List α) : Prop := sn.Nodup ∧ l.map some = sn.reverse.map (fun j => m[j]?)
theorem mord_nil {m : List α} : MOrd m [] [] := ⟨List.nodup_nil, rfl⟩
theorem MOrd.snoc {m : List α} {sn : List Nat} {l : List α} {j : Nat} {y : α} (h : MOrd m sn l) (hy : m[j]? = some y) (hj : j ∉ sn) : MOrd m (j :: sn) (l ++ [y]) :=
 ⟨List.nodup_cons.2 ⟨hj, h.1⟩, by rw [List.map_append, h.2, List.reverse_cons, List.map_append]; simp [hy]⟩
theorem MOrd.lt {m : List α} {sn : List Nat} {l : List α} (h : MOrd m sn l) {j : Nat} (hj : j ∈ sn) : j < m.length := by
 have h1 : m[j]? ∈ sn.reverse.map (fun j => m[j]?) := List.mem_map.2 ⟨j, List.mem_reverse.2 hj, rfl⟩;rw [← h.2] at h1;obtain ⟨x, _, hx⟩ := List.mem_map.1 h1;exact (List.getElem?_eq_some_iff.1 hx.symm).1
theorem nodup_sub_len {α : Type} [DecidableEq α] : ∀ {a b : List α}, a.Nodup → (∀ x ∈ a, x ∈ b) → a.length ≤ b.length
 | [], _, _, _ => Nat.zero_le _
 | x :: a, b, hn, hs => by
  obtain ⟨h1, h2⟩ := List.nodup_cons.1 hn;have hx := hs x List.mem_cons_self;have := nodup_sub_len (b := b.erase x) h2 fun y hy => (List.mem_erase_of_ne (fun e => h1 (by rw [← e]; exact hy))).2 (hs y (List.mem_cons_of_mem _ hy));rw [List.length_erase_of_mem hx] at this;have : 0 < b.length := List.length_pos_of_mem hx
  simp; omega
theorem MOrd.dec {m : List α} {sn : List Nat} {l : List α} {j : Nat} (h : MOrd m (j :: sn) l) : m.length - (j :: sn).length < m.length - sn.length := by
 have := nodup_sub_len h.1 (b := List.range m.length) fun x hx => List.mem_range.2 (h.lt hx)
 simp at this ⊢
 omega
theorem MOrd.len {m : List α} {sn : List Nat} {l : List α} (h : MOrd m sn l) : l.length ≤ m.length := by
 have h1 : l.length = sn.length := by have := congrArg List.length h.2; simpa using this
 have := nodup_sub_len h.1 (b := List.range m.length) fun x hx => List.mem_range.2 (h.lt hx)
 simp at this
 omega
theorem filterMap_some (l : List α) : (l.map some).filterMap id = l := by
 induction l with
 | nil => rfl
 | cons x l ih => simpa using ih
theorem map_get_range (m : List α) : (List.range m.length).map (fun j => m[j]?) = m.map some := by
 apply List.ext_getElem?
 intro i;simp only [List.getElem?_map]
 by_cases h : i < m.length
 ·rw [List.getElem?_range h]; simp [h]
 ·rw [List.getElem?_eq_none (by simpa using h), List.getElem?_eq_none (by simpa using h)]; rfl
theorem MOrd.perm {m : List α} {sn : List Nat} {l : List α} (h : MOrd m sn l) (ha : ∀ j, j < m.length → j ∈ sn) : l.Perm m := by
 have h1 : sn.reverse.Perm (List.range m.length) := (List.perm_ext_iff_of_nodup ((List.reverse_perm sn).nodup_iff.2 h.1) List.nodup_range).2 fun j => by
  rw [List.mem_reverse, List.mem_range];exact ⟨fun hj => h.lt hj, ha j⟩
 have h2 := h1.map (fun j => m[j]?);rw [← h.2, map_get_range] at h2;have h3 := h2.filterMap id
 rwa [filterMap_some, filterMap_some] at h3
theorem mp_get {K V : Type} {kf : K → Value} {vf : V → G} {m : List (K × V)} {j : Nat} {k : Value} {g : G} (h : (m.map fun p => (kf p.1, vf p.2))[j]? = some (k, g)) : ∃ y, m[j]? = some y ∧ kf y.1 = k ∧ vf y.2 = g := by
 rw [List.getElem?_map] at h
 cases hm : m[j]? with
 | none => rw [hm] at h; cases h
 | some y =>
  rw [hm] at h;simp only [Option.map_some, Option.some.injEq, Prod.mk.injEq] at h;exact ⟨y, rfl, h.1, h.2⟩
theorem mp_nodup {K V : Type} {kf : K → Value} {vf : V → G} {m : List (K × V)} (h : ((m.map fun p => (kf p.1, vf p.2)).map Prod.fst).Nodup) : (m.map Prod.fst).Nodup := by
 rw [List.map_map, List.nodup_iff_pairwise_ne, List.pairwise_map] at h;rw [List.nodup_iff_pairwise_ne, List.pairwise_map];exact h.imp fun hne e => hne (by simp [e])
theorem mp_all {K V : Type} {kf : K → Value} {vf : V → G} {m : List (K × V)} {sn : List Nat} (h : ∀ j, j < (m.map fun p => (kf p.1, vf p.2)).length → j ∈ sn) : ∀ j, j < m.length → j ∈ sn := fun j hj => h j (by rw [List.length_map]; exact hj)
end
end Go.Sim
set_option maxRecDepth 10000
namespace Go.Sim
open Go.Proofs
def s1132_j1 (rec1 : Nat → (List (ByteArray × S1143)) → Option (List (ByteArray × S1143))) (k4 : Nat) (x7 : List (ByteArray × S1143)) : Option (List (ByteArray × S1143)) :=
 rec1 (k4 + 1) x7
def s1132_l1 (a0 : S1089) (r1 : S45 × Int) : List S1079 → Nat → (List (ByteArray × S1143)) → Option (List (ByteArray × S1143))
 | [], k4, x3 => some x3
 | y5 :: t6, k4, x3 => (bif (decide (r1.1.fFrom ≤ (s1120 a0.Night y5.Moment))) && (decide ((s1120 a0.Night y5.Moment) ≤ r1.1.fTo)) then s1132_j1 (fun k_ z0_ => s1132_l1 a0 r1 t6 k_ z0_) k4 (mset x3 y5.Name (S1143.mk (IntKind.i64.wrap (((mgetD x3 y5.Name (S1143.mk 0 0)).Count) + 1)) (IntKind.i64.wrap (((mgetD x3 y5.Name (S1143.mk 0 0)).Points) + y5.Noise)))) else s1132_j1 (fun k_ z0_ => s1132_l1 a0 r1 t6 k_ z0_) k4 x3)
def s1132 (a0 : S1089) (a1 : List S1079) : Option (List (ByteArray × S1143)) :=
 bindO (s70 a0.Season) fun r1 => s1132_l1 a0 r1 a1 0 []
theorem c1132 (a0 : S1089) (a1 : List S1079) {R : List (ByteArray × S1143)}   (hR : s1132 a0 a1 = some R) : Con (EG glT) 32 [G.agg [G.int a0.Night.fFrom, G.int a0.Night.fTo, G.int a0.Season.Year, G.str a0.Season.Kind, G.int a0.Count, G.int a0.Points], G.sl 7 (List.map S1079.c a1)] (G.mpf (List.map (fun p => ((Value.string) p.1, ((fun (v : S1143) => G.agg [G.int v.Count, G.int v.Points])) p.2)) R)) := by
 unfold s1132 at hR;refine con_of_aw Tryd.func32 rfl rfl fun w0 M0 => ?_;refine len_sl (f := S1079.c) (l := a1) 1 rfl fun hla1 => ?_;refine aw_seq ?_;refine aw_region [.p, .p] ?_;refine st rfl rfl (eff_box rfl rfl) rfl ?_;refine st rfl rfl (eff_assigng rfl rfl) rfl ?_;refine st_nil ?_;refine aw_seq ?_;obtain ⟨r1, br1, hR⟩ := bindO_inv hR;refine aw_region [.p, .p, .p, .p, .p, .p, .w, .w, .p] ?_;refine st rfl rfl (eff_fieldAddr rfl fl1090_1 rfl) rfl ?_;refine st rfl rfl (eff_loadA rfl ty68 rfl rfl rfl) rfl ?_;refine st rfl rfl (eff_call rfl K70 rfl (c70 a0.Season br1) (ag_cons rfl ag_nil)) rfl ?_;refine st rfl rfl (eff_moveg rfl rfl) rfl ?_;refine st rfl rfl (eff_extract rfl rfl rfl) rfl ?_;refine st rfl rfl (eff_extract rfl rfl rfl) rfl ?_;refine st_w rfl rfl (eff_alloc 5 rfl z46 rfl rfl) rfl ?_;refine st_wn rfl rfl (eff_store (tv := .g (G.agg [G.int r1.1.fFrom, G.int r1.1.fTo, G.int r1.1.Days])) rfl ty46 rfl rfl rfl rfl rfl) ?_;refine st rfl rfl (eff_assigng rfl rfl) rfl ?_;refine st_nil ?_;refine aw_seq ?_;refine aw_region [.w, .p] ?_;refine st_w rfl rfl (eff_makeMap 18 rfl rfl) rfl ?_;refine st rfl rfl (eff_assignM rfl rfl) rfl ?_;refine st_nil ?_;refine aw_seq ?_;refine aw_seq ?_;refine aw_region [.p, .p, .p] ?_;refine st rfl rfl (eff_moveg rfl rfl) rfl ?_;refine st rfl rfl (eff_lenM (f := S1079.c) (l := a1) rfl Tryd.underlying39 rfl) rfl ?_;refine st rfl rfl (eff_moveg rfl rfl) rfl ?_;refine st_nil ?_;refine aw_block ?_;refine aw_loop_g (γ := Nat × (List S1079) × (List (ByteArray × S1143))) (fun g => ([(2, .g (G.ref [G.int a0.Night.fFrom, G.int a0.Night.fTo, G.int a0.Season.Year, G.str a0.Season.Kind, G.int a0.Count, G.int a0.Points])), (5, .ptr 5 0), (7, .omap 18), (19, .g (G.sl 7 (List.map S1079.c a1))), (20, .g (G.int (List.length a1 : Int))), (21, .g (G.int ((g.1 : Nat) : Int)))], [(5, .box [.g (G.int r1.1.fFrom), .g (G.int r1.1.fTo), .g (G.int r1.1.Days)]), (18, mpB (K := ByteArray) (V := S1143) (Value.string) (fun (v : S1143) => G.agg [G.int v.Count, G.int v.Points]) g.2.2)])) (fun g => a1.drop g.1 = g.2.1 ∧ s1132_l1 a0 r1 g.2.1 g.1 g.2.2 = some R) (fun g => List.length g.2.1) ⟨rfl, (0, a1, []), ⟨rfl, rfl, rfl, rfl, rfl, rfl, trivial⟩, ⟨rfl, rfl, trivial⟩, rfl, ⟨rfl, hR⟩, trivial⟩ ?_
 ·rintro ⟨k4, t6, x3⟩ ⟨hd, hR⟩;replace hd : a1.drop k4 = t6 := hd;replace hR : s1132_l1 a0 r1 t6 k4 x3 = some R := hR;refine aw_seq ?_;refine aw_region [.p] ?_;refine st rfl rfl (eff_lss rfl rfl rfl) rfl ?_;refine st_nil ?_;refine len_sl (f := S1079.c) (l := a1) 19 rfl fun hlz1 => ?_;refine aw_seq ?_;refine aw_cond _ rfl (fun h1 => ?_) (fun h1 => ?_)
  ·replace h1 : (decide (((k4 : Nat) : Int) < (List.length a1 : Int))) = true := h1;obtain ⟨y5, t6, rfl, hx1, hd⟩ := drop_cons hd (decT h1);replace h1 := decT h1;rw [s1132_l1] at hR;(try dsimp only at hR);refine aw_skip ?_;refine aw_cut_g (γ := (List (ByteArray × S1143))) (fun g => ([(2, .g (G.ref [G.int a0.Night.fFrom, G.int a0.Night.fTo, G.int a0.Season.Year, G.str a0.Season.Kind, G.int a0.Count, G.int a0.Points])), (5, .ptr 5 0), (7, .omap 18), (19, .g (G.sl 7 (List.map S1079.c a1))), (20, .g (G.int (List.length a1 : Int))), (21, .g (G.int ((k4 : Nat) : Int)))], [(5, .box [.g (G.int r1.1.fFrom), .g (G.int r1.1.fTo), .g (G.int r1.1.Days)]), (18, mpB (K := ByteArray) (V := S1143) (Value.string) (fun (v : S1143) => G.agg [G.int v.Count, G.int v.Points]) g)])) (fun g => s1132_j1 (fun k_ z0_ => s1132_l1 a0 r1 t6 k_ z0_) k4 g = some R) ?_ ?_
   ·refine aw_block ?_;refine aw_seq ?_;refine aw_region [.p, .p, .w, .w] ?_;refine st rfl rfl (eff_ix (f := S1079.c) (l := a1) (a := y5) rfl Tryd.underlying39 ty1080 rfl rfl (Int.natCast_nonneg _) hx1) rfl ?_;refine st rfl rfl (eff_loadA rfl ty1080 rfl rfl rfl) rfl ?_;refine st_w rfl rfl (eff_alloc 9 rfl z1080 rfl rfl) rfl ?_;refine st_wn rfl rfl (eff_store (tv := .g (G.agg [G.int y5.Moment, G.str y5.Kind, G.str y5.Terminal, G.int y5.Seats, G.int y5.Size, G.int y5.Noise, G.str y5.Name])) rfl ty1080 rfl rfl rfl rfl rfl) ?_;refine st_nil ?_;refine aw_seq ?_;refine aw_region [.p, .p, .p, .r, .p, .p] ?_;refine st rfl rfl (eff_fieldAddr rfl fl1090_0 rfl) rfl ?_;refine st rfl rfl (eff_loadA rfl ty1086 rfl rfl rfl) rfl ?_;refine st rfl rfl (eff_fieldO rfl fl1080_0 rfl) rfl ?_;refine st_r rfl rfl (eff_loadO rfl ty3 rfl rfl rfl) rfl ?_;refine st rfl rfl (eff_call rfl K1120 rfl (c1120 a0.Night y5.Moment) (ag_cons rfl (ag_cons rfl ag_nil))) rfl ?_;refine st rfl rfl (eff_assigng rfl rfl) rfl ?_;refine st_nil ?_;refine aw_seq ?_;refine aw_region [.p, .p, .r, .p, .p, .p, .p, .r, .p, .p] ?_;refine st rfl rfl (eff_moveg rfl rfl) rfl ?_;refine st rfl rfl (eff_fieldO rfl fl46_0 rfl) rfl ?_;refine st_r rfl rfl (eff_loadO rfl ty3 rfl rfl rfl) rfl ?_;refine st rfl rfl (eff_geq rfl rfl rfl) rfl ?_;refine st rfl rfl (eff_moveg rfl rfl) rfl ?_;refine st_g rfl rfl rfl (gb_bool _ _) (fun h => eff_moveg rfl rfl) rfl ?_;refine st_g rfl rfl rfl (gb_bool _ _) (fun h => eff_fieldO rfl fl46_1 rfl) rfl ?_;refine st_gr rfl rfl rfl (gb_bool _ _) (fun h => eff_loadO rfl ty3 (gd h rfl) rfl rfl) rfl ?_;refine st_g rfl rfl rfl (gb_bool _ _) (fun h => eff_leq rfl (gd h rfl) (gd h rfl)) rfl ?_;refine st rfl rfl (eff_and rfl rfl rfl rfl) rfl ?_;refine st_nil ?_;refine aw_cond _ rfl (fun h3 => ?_) (fun h3 => ?_)
    ·replace h3 : ((decide (r1.1.fFrom ≤ (s1120 a0.Night y5.Moment))) && (decide ((s1120 a0.Night y5.Moment) ≤ r1.1.fTo))) = true := h3;replace hR := condT hR h3;(try simp only [Bool.or_eq_true, Bool.and_eq_true, Bool.or_eq_false_iff, Bool.and_eq_false_iff, Bool.not_eq_true', Bool.not_eq_false', decide_eq_true_eq, decide_eq_false_iff_not] at h3);refine aw_seq ?_;refine aw_region [.p, .p, .r, .r, .w, .w] ?_;refine st rfl rfl (eff_moveM rfl rfl) rfl ?_;refine st rfl rfl (eff_fieldO rfl fl1080_6 rfl) rfl ?_;refine st_r rfl rfl (eff_loadO rfl ty9 rfl rfl rfl) rfl ?_;refine st_r rfl rfl (eff_lookup (kf := Value.string) (vf := (fun (v : S1143) => G.agg [G.int v.Count, G.int v.Points])) (m := x3) (k := y5.Name) (z := (S1143.mk 0 0)) rfl Tryd.underlying82 Tryd.underlying9 zr1144 (fun _ _ => ⟨_, rfl, ⟨⟨rfl, rfl⟩, ⟨⟨rfl, rfl⟩, trivial⟩⟩⟩) rfl rfl rfl) rfl ?_;refine st_w rfl rfl (eff_alloc 11 rfl z1144 rfl rfl) rfl ?_;refine st_wn rfl rfl (eff_store (tv := .g (G.agg [G.int ((mgetD x3 y5.Name (S1143.mk 0 0)).Count), G.int ((mgetD x3 y5.Name (S1143.mk 0 0)).Points)])) rfl ty1144 rfl rfl rfl rfl rfl) ?_;refine st_nil ?_;refine aw_region [.p, .p, .r, .p, .r, .p, .p, .r, .p, .r, .p, .p, .w] ?_;refine st rfl rfl (eff_moveM rfl rfl) rfl ?_;refine st rfl rfl (eff_fieldO rfl fl1080_6 rfl) rfl ?_;refine st_r rfl rfl (eff_loadO rfl ty9 rfl rfl rfl) rfl ?_;refine st rfl rfl (eff_fieldO rfl fl1144_0 rfl) rfl ?_;refine st_r rfl rfl (eff_loadO rfl ty3 rfl rfl rfl) rfl ?_;refine st rfl rfl (eff_addw rfl rfl rfl) rfl ?_;refine st rfl rfl (eff_fieldO rfl fl1144_1 rfl) rfl ?_;refine st_r rfl rfl (eff_loadO rfl ty3 rfl rfl rfl) rfl ?_;refine st rfl rfl (eff_fieldO rfl fl1080_5 rfl) rfl ?_;refine st_r rfl rfl (eff_loadO rfl ty3 rfl rfl rfl) rfl ?_;refine st rfl rfl (eff_addw rfl rfl rfl) rfl ?_;refine st rfl rfl (eff_build rfl z1144 rfl pl1144 (pb_cons rfl (pb_cons rfl pb_nil)) rfl) rfl ?_;refine st_wn rfl rfl (eff_update (kf := Value.string) (vf := (fun (v : S1143) => G.agg [G.int v.Count, G.int v.Points])) (m := x3) (k := y5.Name) (v := (S1143.mk (IntKind.i64.wrap (((mgetD x3 y5.Name (S1143.mk 0 0)).Count) + 1)) (IntKind.i64.wrap (((mgetD x3 y5.Name (S1143.mk 0 0)).Points) + y5.Noise)))) (ins := false) rfl Tryd.underlying82 Tryd.underlying9 rfl rfl rfl rfl) ?_;refine st_nil ?_;exact ⟨rfl, mset x3 y5.Name (S1143.mk (IntKind.i64.wrap (((mgetD x3 y5.Name (S1143.mk 0 0)).Count) + 1)) (IntKind.i64.wrap (((mgetD x3 y5.Name (S1143.mk 0 0)).Points) + y5.Noise))), ⟨rfl, rfl, rfl, rfl, rfl, rfl, trivial⟩, ⟨rfl, rfl, trivial⟩, rfl, hR, trivial⟩
    ·replace h3 : ((decide (r1.1.fFrom ≤ (s1120 a0.Night y5.Moment))) && (decide ((s1120 a0.Night y5.Moment) ≤ r1.1.fTo))) = false := h3;replace hR := condF hR h3;(try simp only [Bool.or_eq_true, Bool.and_eq_true, Bool.or_eq_false_iff, Bool.and_eq_false_iff, Bool.not_eq_true', Bool.not_eq_false', decide_eq_true_eq, decide_eq_false_iff_not] at h3);refine aw_skip ?_;exact ⟨rfl, x3, ⟨rfl, rfl, rfl, rfl, rfl, rfl, trivial⟩, ⟨rfl, rfl, trivial⟩, rfl, hR, trivial⟩
   ·rintro x7 hR;replace hR : s1132_j1 (fun k_ z0_ => s1132_l1 a0 r1 t6 k_ z0_) k4 x7 = some R := hR;unfold s1132_j1 at hR;refine aw_region [.p, .p] ?_;refine st rfl rfl (eff_add rfl rfl rfl (by unfold I64; omega)) rfl ?_;refine st rfl rfl (eff_moveg rfl rfl) rfl ?_;refine st_nil ?_;exact ⟨rfl, (k4 + 1, t6, x7), ⟨rfl, rfl, rfl, rfl, rfl, rfl, trivial⟩, ⟨rfl, rfl, trivial⟩, rfl, ⟨hd, hR⟩, by simp⟩
  ·replace h1 : (decide (((k4 : Nat) : Int) < (List.length a1 : Int))) = false := h1;obtain rfl := drop_nil hd (decF h1);rw [s1132_l1] at hR;refine aw_exit ?_;refine aw_seq ?_;refine aw_region [.p, .p] ?_;refine st rfl rfl (eff_moveM rfl rfl) rfl ?_;refine st rfl rfl (eff_assignM rfl rfl) rfl ?_;refine st_nil ?_;refine aw_ret ?_;obtain rfl := Option.some.inj hR;exact res_c rfl (rv_map rfl rfl)
def s1071_b1  (g : Int × Int) (y6 : ByteArray × S1143) : Int × Int :=
 (IntKind.i64.wrap (g.1 + y6.2.Count), IntKind.i64.wrap (g.2 + y6.2.Points))
def s1071_e1  (g : Int × Int) : Option (S1143 × Int) :=
 some ((S1143.mk g.1 g.2), 0)
def s1071 (a0 : S1089) (a1 : List S1079) : Option (S1143 × Int) :=
 (bif decide ((s1085 [(s1047 a0), (s1027 a1)]) ≠ 0) then some ((S1143.mk 0 0), (s1085 [(s1047 a0), (s1027 a1)])) else bindO (s1132 a0 a1) fun r1 => s1071_e1 (List.foldl (s1071_b1) (0, 0) r1))
theorem c1071 (a0 : S1089) (a1 : List S1079) {R : S1143 × Int}  (hpm1 : ∀  (l_ m_ : List (ByteArray × S1143)), (m_.map Prod.fst).Nodup → l_.Perm m_ → s1071_e1 (List.foldl (s1071_b1) (0, 0) l_) = s1071_e1 (List.foldl (s1071_b1) (0, 0) m_)) (hR : s1071 a0 a1 = some R) : Con (EG glT) 10 [G.agg [G.int a0.Night.fFrom, G.int a0.Night.fTo, G.int a0.Season.Year, G.str a0.Season.Kind, G.int a0.Count, G.int a0.Points], G.sl 7 (List.map S1079.c a1)] (G.tup [G.agg [G.int R.1.Count, G.int R.1.Points], G.int R.2]) := by
 unfold s1071 at hR;refine con_of_aw Tryd.func10 rfl rfl fun w0 M0 => ?_;refine len_sl (f := S1079.c) (l := a1) 1 rfl fun hla1 => ?_;refine aw_seq ?_;refine aw_region [.p, .w, .p] ?_;refine st rfl rfl (eff_box rfl rfl) rfl ?_;refine st_w rfl rfl (eff_alloc 4 rfl z1144 rfl rfl) rfl ?_;refine st rfl rfl (eff_assigng rfl rfl) rfl ?_;refine st_nil ?_;refine aw_seq ?_;refine aw_seq ?_;refine aw_region [.p, .p, .p, .p, .p, .p, .p] ?_;refine st rfl rfl (eff_loadA rfl ty1090 rfl rfl rfl) rfl ?_;refine st rfl rfl (eff_call rfl K1047 rfl (c1047 a0) (ag_cons rfl ag_nil)) rfl ?_;refine st rfl rfl (eff_moveg rfl rfl) rfl ?_;refine st rfl rfl (eff_call rfl K1027 rfl (c1027 a1) (ag_cons rfl ag_nil)) rfl ?_;refine st rfl rfl (eff_buildSlice rfl Tryd.underlying101 ty37 z37 rfl (ps_cons rfl (ps_cons rfl ps_nil)) rfl (by simp []) (by decide)) rfl ?_;refine st rfl rfl (eff_call rfl K1085 rfl (c1085 [(s1047 a0), (s1027 a1)]) (ag_cons rfl ag_nil)) rfl ?_;refine st rfl rfl (eff_assigng rfl rfl) rfl ?_;refine st_nil ?_;refine aw_seq ?_;refine aw_region [.p, .p] ?_;refine st rfl rfl (eff_moveg rfl rfl) rfl ?_;refine st rfl rfl (eff_neq rfl rfl rfl) rfl ?_;refine st_nil ?_;refine aw_cond _ rfl (fun h1 => ?_) (fun h1 => ?_)
 ·replace h1 : (decide ((s1085 [(s1047 a0), (s1027 a1)]) ≠ 0)) = true := h1;replace hR := condT hR h1;(try simp only [Bool.or_eq_true, Bool.and_eq_true, Bool.or_eq_false_iff, Bool.and_eq_false_iff, Bool.not_eq_true', Bool.not_eq_false', decide_eq_true_eq, decide_eq_false_iff_not] at h1);refine aw_seq ?_;refine aw_region [.p, .p, .w, .p] ?_;refine st rfl rfl (eff_build rfl z1144 rfl pl1144 pb_nil rfl) rfl ?_;refine st rfl rfl (eff_moveg rfl rfl) rfl ?_;refine st_wn rfl rfl (eff_store (tv := .g (G.agg [G.int 0, G.int 0])) rfl ty1144 rfl rfl rfl rfl rfl) ?_;refine st rfl rfl (eff_assigng rfl rfl) rfl ?_;refine st_nil ?_;refine aw_ret ?_;obtain rfl := Option.some.inj hR;exact resN rfl ⟨rv_cell rfl rfl ty1144 rfl rfl, rv_g rfl, trivial⟩ (by simp)
 ·replace h1 : (decide ((s1085 [(s1047 a0), (s1027 a1)]) ≠ 0)) = false := h1;replace hR := condF hR h1;(try simp only [Bool.or_eq_true, Bool.and_eq_true, Bool.or_eq_false_iff, Bool.and_eq_false_iff, Bool.not_eq_true', Bool.not_eq_false', decide_eq_true_eq, decide_eq_false_iff_not] at h1);refine aw_skip ?_;refine aw_seq ?_;refine aw_region [.w] ?_;refine st_w rfl rfl (eff_alloc 7 rfl z1144 rfl rfl) rfl ?_;refine st_nil ?_;refine aw_seq ?_;refine aw_seq ?_;obtain ⟨r1, br1, hR⟩ := bindO_inv hR;refine aw_region [.p, .p, .p, .w] ?_;refine st rfl rfl (eff_loadA rfl ty1090 rfl rfl rfl) rfl ?_;refine st rfl rfl (eff_moveg rfl rfl) rfl ?_;refine st rfl rfl (eff_call rfl K1132 rfl (c1132 a0 a1 br1) (ag_cons rfl (ag_cons rfl ag_nil))) rfl ?_;refine st_w rfl rfl (eff_rangeM 23 rfl Tryd.underlying82 rfl rfl) rfl ?_;refine st_nil ?_;refine aw_block ?_;refine aw_loop_g (γ := (List Nat) × (List (ByteArray × S1143)) × Int × Int) (fun g => ([(4, .ptr 4 0), (7, .ptr 7 0), (23, .ptr 23 0)], [(4, .box [.g (G.int 0), .g (G.int 0)]), (7, .box [.g (G.int g.2.2.1), .g (G.int g.2.2.2)]), (23, .mit (List.map (fun p => ((Value.string) p.1, ((fun (v : S1143) => G.agg [G.int v.Count, G.int v.Points])) p.2)) r1) g.1)])) (fun g => MOrd r1 g.1 g.2.1 ∧ List.foldl (s1071_b1) (0, 0) g.2.1 = (g.2.2.1, g.2.2.2)) (fun g => List.length r1 - List.length g.1) ⟨rfl, ([], [], 0, 0), ⟨rfl, rfl, rfl, trivial⟩, ⟨rfl, rfl, rfl, trivial⟩, rfl, ⟨mord_nil, rfl⟩, trivial⟩ ?_
  ·rintro ⟨sn4, l5, x2, x3⟩ ⟨hmo_, hfd_⟩;replace hmo_ : MOrd r1 sn4 l5 := hmo_;replace hfd_ : List.foldl (s1071_b1) (0, 0) l5 = (x2, x3) := hfd_;have hml_ := hmo_.len;refine aw_seq ?_;refine aw_next (cs := [.p]) rfl rfl rfl rfl rfl rfl rfl (fun hal_ hnk_ => ?_) (fun jx_ kx_ gx_ hj_ hnx_ => ?_)
   ·refine st rfl rfl (eff_extract rfl rfl rfl) rfl ?_;refine st_nil ?_;refine aw_seq ?_;have hpl_ := (hmo_.perm (mp_all (kf := Value.string) (vf := (fun (v : S1143) => G.agg [G.int v.Count, G.int v.Points])) (m := r1) hal_)).length_eq;replace hR : s1071_e1 (List.foldl (s1071_b1) (0, 0) r1) = some R := hR;rw [← hpm1  l5 r1 (mp_nodup (kf := Value.string) (vf := (fun (v : S1143) => G.agg [G.int v.Count, G.int v.Points])) (m := r1) hnk_) (hmo_.perm (mp_all (kf := Value.string) (vf := (fun (v : S1143) => G.agg [G.int v.Count, G.int v.Points])) (m := r1) hal_)), hfd_] at hR;unfold s1071_e1 at hR;(try dsimp only at hR);refine aw_cond _ rfl (fun h2 => ?_) (fun h2 => ?_)
    ·exact Bool.noConfusion h2
    ·refine aw_exit ?_;refine aw_seq ?_;refine aw_region [.r, .w, .p] ?_;refine st_r rfl rfl (eff_loadOA rfl ty1144 rfl rfl rfl rfl) rfl ?_;refine st_wn rfl rfl (eff_store (tv := .g (G.agg [G.int x2, G.int x3])) rfl ty1144 rfl rfl rfl rfl rfl) ?_;refine st rfl rfl (eff_assigng rfl rfl) rfl ?_;refine st_nil ?_;refine aw_ret ?_;obtain rfl := Option.some.inj hR;exact resN rfl ⟨rv_cell rfl rfl ty1144 rfl rfl, rv_g rfl, trivial⟩ (by simp)
   ·obtain ⟨y6, hy_, rfl, rfl⟩ := mp_get (kf := Value.string) (vf := (fun (v : S1143) => G.agg [G.int v.Count, G.int v.Points])) (m := r1) hj_;refine st rfl rfl (eff_extract rfl rfl rfl) rfl ?_;refine st_nil ?_;refine aw_seq ?_;refine aw_cond _ rfl (fun h3 => ?_) (fun h3 => ?_)
    ·refine aw_skip ?_;refine aw_block ?_;refine aw_seq ?_;refine aw_region [.r, .p, .w, .w] ?_;refine st_r rfl rfl (eff_entryM rfl rfl rfl hj_) rfl ?_;refine st rfl rfl (eff_extract rfl rfl rfl) rfl ?_;refine st_w rfl rfl (eff_alloc 9 rfl z1144 rfl rfl) rfl ?_;refine st_wn rfl rfl (eff_store (tv := .g (G.agg [G.int y6.2.Count, G.int y6.2.Points])) rfl ty1144 rfl rfl rfl rfl rfl) ?_;refine st_nil ?_;refine aw_region [.p, .r, .p, .r, .p, .p, .r, .p, .r, .p, .p, .w] ?_;refine st rfl rfl (eff_fieldO rfl fl1144_0 rfl) rfl ?_;refine st_r rfl rfl (eff_loadO rfl ty3 rfl rfl rfl) rfl ?_;refine st rfl rfl (eff_fieldO rfl fl1144_0 rfl) rfl ?_;refine st_r rfl rfl (eff_loadO rfl ty3 rfl rfl rfl) rfl ?_;refine st rfl rfl (eff_addw rfl rfl rfl) rfl ?_;refine st rfl rfl (eff_fieldO rfl fl1144_1 rfl) rfl ?_;refine st_r rfl rfl (eff_loadO rfl ty3 rfl rfl rfl) rfl ?_;refine st rfl rfl (eff_fieldO rfl fl1144_1 rfl) rfl ?_;refine st_r rfl rfl (eff_loadO rfl ty3 rfl rfl rfl) rfl ?_;refine st rfl rfl (eff_addw rfl rfl rfl) rfl ?_;refine st rfl rfl (eff_build rfl z1144 rfl pl1144 (pb_cons rfl (pb_cons rfl pb_nil)) rfl) rfl ?_;refine st_wn rfl rfl (eff_store (tv := .g (G.agg [G.int (IntKind.i64.wrap (x2 + y6.2.Count)), G.int (IntKind.i64.wrap (x3 + y6.2.Points))])) rfl ty1144 rfl rfl rfl rfl rfl) ?_;refine st_nil ?_;exact ⟨rfl, (jx_ :: sn4, l5 ++ [y6], IntKind.i64.wrap (x2 + y6.2.Count), IntKind.i64.wrap (x3 + y6.2.Points)), ⟨rfl, rfl, rfl, trivial⟩, ⟨rfl, rfl, rfl, trivial⟩, rfl, ⟨hmo_.snoc hy_ hnx_, (by rw [List.foldl_append, hfd_]; rfl)⟩, (hmo_.snoc hy_ hnx_).dec⟩
    ·exact Bool.noConfusion h3
theorem wrap_wrap (x a : Int) : IntKind.i64.wrap (IntKind.i64.wrap x + a) = IntKind.i64.wrap (x + a) := by rw [IntKind.wrap_i64, IntKind.wrap_i64, IntKind.wrap_i64]; omega
theorem b1_sum : ∀ (l : List (ByteArray × S1143)) (x y : Int), List.foldl s1071_b1 (IntKind.i64.wrap x, IntKind.i64.wrap y) l = (IntKind.i64.wrap (x + (l.map fun p => p.2.Count).sum), IntKind.i64.wrap (y + (l.map fun p => p.2.Points).sum))
 | [], x, y => by simp
 | p :: l, x, y => by
  rw [List.foldl_cons];show List.foldl s1071_b1 (IntKind.i64.wrap (IntKind.i64.wrap x + p.2.Count), IntKind.i64.wrap (IntKind.i64.wrap y + p.2.Points)) l = _;rw [wrap_wrap, wrap_wrap, b1_sum l, List.map_cons, List.map_cons, List.sum_cons, List.sum_cons, Int.add_assoc, Int.add_assoc]
theorem b1_sum0 (l : List (ByteArray × S1143)) : List.foldl s1071_b1 (0, 0) l = (IntKind.i64.wrap ((l.map fun p => p.2.Count).sum), IntKind.i64.wrap ((l.map fun p => p.2.Points).sum)) := by
 have h := b1_sum l 0 0;rw [show IntKind.i64.wrap 0 = 0 by decide, Int.zero_add, Int.zero_add] at h;exact h
theorem perm_sum {l l' : List Int} (h : l.Perm l') : l.sum = l'.sum := by
 induction h with
 | nil => rfl
 | cons _ _ ih => simp [ih]
 | swap => simp only [List.sum_cons]; omega
 | trans _ _ i1 i2 => exact i1.trans i2
theorem hpm71 (l m : List (ByteArray × S1143)) (_ : (m.map Prod.fst).Nodup) (hp : l.Perm m) : s1071_e1 (List.foldl s1071_b1 (0, 0) l) = s1071_e1 (List.foldl s1071_b1 (0, 0) m) := by
 rw [b1_sum0, b1_sum0, perm_sum (hp.map fun p => p.2.Count), perm_sum (hp.map fun p => p.2.Points)]
theorem decode_lo {s : ByteArray} {i : Nat} (h : (s.get! i).toNat < 128) : Utf8.decode s i = ((s.get! i).toNat, 1) := by
 unfold Utf8.decode
 simp [h]
theorem decode_hi {s : ByteArray} {i : Nat} (h : 128 ≤ (s.get! i).toNat) : 128 ≤ (Utf8.decode s i).1 := by
 unfold Utf8.decode;simp only [Nat.add_zero];rw [if_neg (by omega)]
 repeat' split
 all_goals first | assumption | (simp [Utf8.runeError]; done) | (rename_i h2; simp only [Bool.and_eq_true, decide_eq_true_eq] at h2; have h3 := h2.1; dsimp only; omega)
theorem get_toList {s : ByteArray} {i : Nat} (h : i < s.data.toList.length) : s.get! i = s.data.toList[i] := by
 have h' : i < s.data.size := by simpa using h
 show s.data[i]! = _;rw [getElem!_pos s.data i h']
 simp
theorem name_loop (s : ByteArray) : ∀ n pos, s.size ≤ pos + n → s147_l1 (runesF s n pos) = s91_l1 (s.data.toList.drop pos) pos := by
 intro n
 induction n with
 | zero =>
  intro pos h;rw [List.drop_eq_nil_of_le (by simpa using h)]; rfl
 | succ n ih =>
  intro pos h;unfold runesF
  split
  ·rename_i hp
   have hl : pos < s.data.toList.length := by simpa using hp
   rw [List.drop_eq_getElem_cons hl, s147_l1, s91_l1, ← get_toList hl]
   rcases Nat.lt_or_ge (s.get! pos).toNat 128 with hb | hb
   ·rw [decode_lo hb, ih (pos + 1) (by omega)];have e1 : (decide (((pos : Nat) : Int) = 0)) = decide ((pos : Int) = 0) := rfl;dsimp only;rw [Bool.or_comm ((decide ((65 : Int) ≤ _)) && _)]
   ·have hb2 := decode_hi hb
    have c1 : (!(((decide ((65 : Int) ≤ ((Utf8.decode s pos).1 : Int))) && (decide (((Utf8.decode s pos).1 : Int) ≤ 90))) || ((decide ((97 : Int) ≤ ((Utf8.decode s pos).1 : Int))) && (decide (((Utf8.decode s pos).1 : Int) ≤ 122))))) = true := by
     simp; omega
    have c2 : (!(((decide ((97 : Int) ≤ ((s.get! pos).toNat : Int))) && (decide (((s.get! pos).toNat : Int) ≤ 122))) || ((decide ((65 : Int) ≤ ((s.get! pos).toNat : Int))) && (decide (((s.get! pos).toNat : Int) ≤ 90))))) = true := by
     simp; omega
    dsimp only;rw [c1, c2]
    have d1 : (decide (((Utf8.decode s pos).1 : Int) ≠ 95) && (decide (((Utf8.decode s pos).1 : Int) < 48) || decide (57 < ((Utf8.decode s pos).1 : Int)))) = true := by simp; omega
    have d2 : (decide (((s.get! pos).toNat : Int) ≠ 95) && (decide (((s.get! pos).toNat : Int) < 48) || decide (57 < ((s.get! pos).toNat : Int)))) = true := by simp; omega
    rw [d1, d2]; simp
  ·rename_i hp
   rw [List.drop_eq_nil_of_le (by simpa using hp)]; rfl
theorem name_eq (s : ByteArray) : s147 s = s91 s := by
 unfold s147 s91 runes;rw [name_loop s _ 0 (by omega)]; rfl
theorem s1089_eq (s : ByteArray) : s1089 s = s1093 s := by
 unfold s1089 s1093; rw [name_eq, s1086_ite, cond_eq_ite]
theorem movs_l (a : List S1079) : ∀ t k, s1028_l1 t k = s1099_l1 a s1100 t k
 | [], k => rfl
 | y :: t, k => by
  rw [s1028_l1, s1099_l1, ← movs_l a t (k + 1)];unfold s1100 s1028_j2 s1028_j1;rw [s1085_eq, s1086_ite, s1086_ite, name_eq, s1089_eq, s1088_eq, s1088_eq, s1088_eq, s1098_eq];simp only [s89_cons, s89_nil, s1092]
  by_cases c1 : s96 y.Moment = 0 <;> by_cases c2 : y.Kind = ⟨#[65]⟩ <;> by_cases c3 : y.Kind = ⟨#[68]⟩ <;> by_cases c4 : s1093 y.Terminal = 0 <;> by_cases c5 : s90 y.Seats 0 999 = 0 <;> by_cases c6 : s90 y.Size 1 9 = 0 <;> by_cases c7 : s90 y.Noise 0 99 = 0 <;> by_cases c8 : s91 y.Name = true <;> simp [c1, c2, c3, c4, c5, c6, c7, c8]
theorem movs_eq (a : List S1079) : s1028 a = s1027 a := by
 unfold s1028 s1027 s1099;rw [movs_l a a 0]
theorem s89_zero : ∀ (l : List Int), s89 l = 0 ↔ ∀ x ∈ l, x = 0
 | [] => by simp [s89_nil]
 | x :: l => by
  rw [s89_cons]
  by_cases h : x = 0
  ·simp [h, s89_zero l]
  ·simp [h]
theorem s90_zero (a b c : Int) : s90 a b c = 0 ↔ b ≤ a ∧ a ≤ c := by rw [s90_ite]; split <;> simp_all
theorem s96_zero (a : Int) : s96 a = 0 ↔ 0 ≤ a ∧ a ≤ 143999999 := s90_zero _ _ _
theorem s1086_zero (b : Bool) (e : Int) (he : e ≠ 0) : s1086 b e = 0 ↔ b = false := by rw [s1086_ite]; cases b <;> simp [he]
structure MovOk (m : S1079) : Prop where
 m0 : 0 ≤ m.Moment
 m1 : m.Moment ≤ 143999999
 s0 : 0 ≤ m.Seats
 s1 : m.Seats ≤ 999
 n0 : 0 ≤ m.Noise
 n1 : m.Noise ≤ 99
 kd : m.Kind = ⟨#[65]⟩ ∨ m.Kind = ⟨#[68]⟩
 nm : s91 m.Name = true
theorem movs_all (a : List S1079) : ∀ t k, s1099_l1 a s1100 t k = 0 → ∀ y ∈ t, MovOk y
 | [], _, _, y, hy => by cases hy
 | z :: t, k, h, y, hy => by
  rw [s1099_l1] at h
  by_cases h0 : s1100 z (List.take (Int.toNat ((k : Nat) : Int)) a) = 0
  ·rw [h0] at h
   rcases List.mem_cons.1 hy with rfl | hy
   ·unfold s1100 at h0;rw [s1085_eq, s89_zero] at h0;simp only [List.mem_cons, List.not_mem_nil, or_false, forall_eq_or_imp, forall_eq] at h0;obtain ⟨g1, g2, _, g3, _, g5, g6⟩ := h0;rw [s1098_eq, s96_zero] at g1;rw [s1086_zero _ _ (by decide)] at g2;rw [s1086_zero _ _ (by decide), name_eq] at g6;rw [s1088_eq, s90_zero] at g3 g5;refine ⟨g1.1, g1.2, g3.1, g3.2, g5.1, g5.2, ?_, by simpa using g6⟩
    by_cases h1 : y.Kind = ⟨#[65]⟩
    ·exact .inl h1
    ·by_cases h2 : y.Kind = ⟨#[68]⟩
     ·exact .inr h2
     ·simp [h1, h2] at g2
   ·exact movs_all a t (k + 1) (by simpa using h) y hy
  ·rw [decide_eq_true h0, cond_true] at h; exact absurd h h0
theorem movs_ok {l : List S1079} (h : s1027 l = 0) : l.length ≤ 256 ∧ ∀ y ∈ l, MovOk y := by
 unfold s1027 s1099 at h
 cases hc : decide ((256 : Int) < (List.length l : Int))
 ·rw [hc] at h;exact ⟨by have := of_decide_eq_false hc; omega, movs_all l l 0 h⟩
 ·rw [hc] at h; simp at h
theorem mget_mset {K V : Type} [DecidableEq K] (m : List (K × V)) (k j : K) (v : V) : mget (mset m k v) j = if k = j then some v else mget m j := by
 induction m with
 | nil => by_cases h : k = j <;> simp [mset, mget, h]
 | cons p m ih =>
  obtain ⟨a, b⟩ := p
  by_cases ha : a = k
  ·subst ha
   by_cases h : a = j <;> simp [mset, mget, h]
  ·by_cases h : a = j
   ·subst h;have hk : ¬ k = a := fun h => ha h.symm
    simp [mset, mget, ha, hk]
   ·simp [mset, mget, ha, h, ih]
theorem mgetD_mset {K V : Type} [DecidableEq K] (m : List (K × V)) (k j : K) (v z : V) : mgetD (mset m k v) j z = if k = j then v else mgetD m j z := by
 unfold mgetD;rw [mget_mset]
 by_cases h : k = j <;> simp [h]
section
variable {K V : Type} [DecidableEq K]
theorem mset_keys : ∀ (m : List (K × V)) (k : K) (v : V), (mset m k v).map Prod.fst = if k ∈ m.map Prod.fst then m.map Prod.fst else m.map Prod.fst ++ [k]
 | [], k, v => by simp [mset]
 | (a, b) :: r, k, v => by
  rw [mset]
  by_cases hk : a = k
  ·subst hk; simp
  ·have hk' : ¬ k = a := fun e => hk e.symm;rw [decide_eq_false hk, cond_false, List.map_cons, mset_keys r k v]
   by_cases h : k ∈ r.map Prod.fst
   ·rw [if_pos h, if_pos (by simp only [List.map_cons]; exact List.mem_cons_of_mem _ h)]; rfl
   ·rw [if_neg h, if_neg (by simp only [List.map_cons, List.mem_cons]; rintro (e | e); exact hk' e; exact h e)]; rfl
theorem mset_nodup {m : List (K × V)} (h : (m.map Prod.fst).Nodup) (k : K) (v : V) : ((mset m k v).map Prod.fst).Nodup := by
 rw [mset_keys]
 by_cases hk : k ∈ m.map Prod.fst
 ·rw [if_pos hk]; exact h
 ·rw [if_neg hk, List.nodup_append];exact ⟨h, by simp, fun a ha b hb => by rw [List.mem_singleton.1 hb]; intro e; exact hk (e ▸ ha)⟩
def msum (f : V → Int) (m : List (K × V)) : Int := (m.map fun p => f p.2).sum
theorem msum_mset (f : V → Int) (z : V) (hz : f z = 0) : ∀ (m : List (K × V)) (k : K) (v : V), msum f (mset m k v) = msum f m + f v - f (mgetD m k z)
 | [], k, v => by simp [mset, msum, mgetD, mget, hz]
 | (a, b) :: r, k, v => by
  have ih := msum_mset f z hz r k v;unfold msum at ih ⊢;rw [mset]
  by_cases hk : a = k
  ·subst hk; simp [mgetD, mget]; omega
  ·have e : mgetD ((a, b) :: r) k z = mgetD r k z := by simp [mgetD, mget, hk]
   rw [decide_eq_false hk, cond_false, e, List.map_cons, List.map_cons, List.sum_cons, List.sum_cons, ih]
   omega
end
section
variable (q : S1079 → Bool)
def cU (l : List S1079) (k : ByteArray) : Int := ((l.filter fun m => q m && decide (m.Name = k)).length : Int)
def pU (l : List S1079) (k : ByteArray) : Int := ((l.filter fun m => q m && decide (m.Name = k)).map S1079.Noise).sum
def cA (l : List S1079) : Int := ((l.filter q).length : Int)
def pA (l : List S1079) : Int := ((l.filter q).map S1079.Noise).sum
theorem sum_rng {l : List S1079} (h : ∀ m ∈ l, 0 ≤ m.Noise ∧ m.Noise ≤ 99) : 0 ≤ (l.map S1079.Noise).sum ∧ (l.map S1079.Noise).sum ≤ 99 * (l.length : Int) := by
 induction l with
 | nil => simp
 | cons a l ih =>
  have h1 := h a List.mem_cons_self;have h2 := ih fun m hm => h m (List.mem_cons_of_mem _ hm);rw [List.map_cons, List.sum_cons, List.length_cons]
  omega
theorem len_filter (p : S1079 → Bool) (l : List S1079) : (l.filter p).length ≤ l.length := List.length_filter_le _ _
theorem flt_rng (p : S1079 → Bool) {l : List S1079} (h : ∀ m ∈ l, 0 ≤ m.Noise ∧ m.Noise ≤ 99) : 0 ≤ ((l.filter p).map S1079.Noise).sum ∧ ((l.filter p).map S1079.Noise).sum ≤ 99 * (l.length : Int) := by
 have h1 := sum_rng (l := l.filter p) fun m hm => h m (List.mem_filter.1 hm).1;have h2 := len_filter p l
 omega
theorem cU_snoc (l : List S1079) (y : S1079) (k : ByteArray) : cU q (l ++ [y]) k = cU q l k + if q y = true ∧ y.Name = k then 1 else 0 := by
 unfold cU;rw [List.filter_append]
 by_cases h : q y = true ∧ y.Name = k
 ·rw [if_pos h]; simp [h.1, h.2]
 ·rw [if_neg h]
  have : (q y && decide (y.Name = k)) = false := by
   cases hq : q y
   ·rfl
   ·simp; exact fun e => h ⟨hq, e⟩
  simp [this]
theorem pU_snoc (l : List S1079) (y : S1079) (k : ByteArray) : pU q (l ++ [y]) k = pU q l k + if q y = true ∧ y.Name = k then y.Noise else 0 := by
 unfold pU;rw [List.filter_append]
 by_cases h : q y = true ∧ y.Name = k
 ·rw [if_pos h]; simp [h.1, h.2]
 ·rw [if_neg h]
  have : (q y && decide (y.Name = k)) = false := by
   cases hq : q y
   ·rfl
   ·simp; exact fun e => h ⟨hq, e⟩
  simp [this]
theorem cA_snoc (l : List S1079) (y : S1079) : cA q (l ++ [y]) = cA q l + if q y = true then 1 else 0 := by
 unfold cA; rw [List.filter_append]; cases h : q y <;> simp [h]
theorem pA_snoc (l : List S1079) (y : S1079) : pA q (l ++ [y]) = pA q l + if q y = true then y.Noise else 0 := by
 unfold pA; rw [List.filter_append]; cases h : q y <;> simp [h]
abbrev Mp := List (ByteArray × S1143)
def tabU : List S1079 → Mp → Mp
 | [], m => m
 | y :: l, m => tabU l (if q y = true then mset m y.Name (S1143.mk (IntKind.i64.wrap (((mgetD m y.Name (S1143.mk 0 0)).Count) + 1)) (IntKind.i64.wrap (((mgetD m y.Name (S1143.mk 0 0)).Points) + y.Noise))) else m)
structure TabOk (pre : List S1079) (m : Mp) : Prop where
 nd : (m.map Prod.fst).Nodup
 ky : ∀ k, k ∈ m.map Prod.fst ↔ 0 < cU q pre k
 vl : ∀ k, mgetD m k (S1143.mk 0 0) = S1143.mk (cU q pre k) (pU q pre k)
 sc : msum S1143.Count m = cA q pre
 sp : msum S1143.Points m = pA q pre
theorem tabU_ok : ∀ (rest pre : List S1079) (m : Mp), (pre ++ rest).length ≤ 1000 → (∀ m ∈ pre ++ rest, 0 ≤ m.Noise ∧ m.Noise ≤ 99) → TabOk q pre m → TabOk q (pre ++ rest) (tabU q rest m)
 | [], pre, m, _, _, h => by rw [List.append_nil]; exact h
 | y :: rest, pre, m, hl, hn, h => by
  have e : pre ++ y :: rest = (pre ++ [y]) ++ rest := by simp
  rw [e, tabU];rw [e] at hl hn;refine tabU_ok rest (pre ++ [y]) _ hl hn ?_
  have hlen : pre.length ≤ 1000 := by simp only [List.length_append] at hl; omega
  have hpn : ∀ m ∈ pre, 0 ≤ m.Noise ∧ m.Noise ≤ 99 := fun m hm => hn m (by simp [hm]);have hyn := hn y (by simp)
  by_cases hq : q y = true
  ·rw [if_pos hq]
   have c1 : 0 ≤ cU q pre y.Name ∧ cU q pre y.Name ≤ pre.length := by unfold cU; have := len_filter (fun m => q m && decide (m.Name = y.Name)) pre; omega
   have c2 : 0 ≤ pU q pre y.Name ∧ pU q pre y.Name ≤ 99 * (pre.length : Int) := flt_rng _ hpn
   have hv : (S1143.mk (IntKind.i64.wrap (((mgetD m y.Name (S1143.mk 0 0)).Count) + 1)) (IntKind.i64.wrap (((mgetD m y.Name (S1143.mk 0 0)).Points) + y.Noise))) = S1143.mk (cU q pre y.Name + 1) (pU q pre y.Name + y.Noise) := by
    rw [h.vl];rw [wrap_i64 (by unfold I64; dsimp only; omega), wrap_i64 (by unfold I64; dsimp only; omega)]
   rw [hv];refine ⟨mset_nodup h.nd _ _, fun k => ?_, fun k => ?_, ?_, ?_⟩
   ·rw [mset_keys, cU_snoc]
    by_cases hk : y.Name = k
    ·subst hk;rw [show (if q y = true ∧ y.Name = y.Name then (1 : Int) else 0) = 1 from if_pos ⟨hq, rfl⟩]
     constructor
     ·intro _; omega
     ·intro _; split
      ·assumption
      ·simp
    ·rw [show (if q y = true ∧ y.Name = k then (1 : Int) else 0) = 0 from if_neg fun e => hk e.2, Int.add_zero, ← h.ky]
     split
     ·rfl
     ·simp; intro e; exact absurd e.symm hk
   ·rw [mgetD_mset, cU_snoc, pU_snoc]
    by_cases hk : y.Name = k
    ·subst hk; rw [if_pos rfl, if_pos ⟨hq, rfl⟩, if_pos ⟨hq, rfl⟩]
    ·rw [if_neg hk, if_neg fun e => hk e.2, if_neg fun e => hk e.2, Int.add_zero, Int.add_zero, h.vl]
   ·rw [msum_mset S1143.Count (S1143.mk 0 0) rfl, h.sc, cA_snoc, if_pos hq, h.vl]; dsimp only; omega
   ·rw [msum_mset S1143.Points (S1143.mk 0 0) rfl, h.sp, pA_snoc, if_pos hq, h.vl]; dsimp only; omega
  ·rw [if_neg hq];refine ⟨h.nd, fun k => ?_, fun k => ?_, ?_, ?_⟩
   ·rw [cU_snoc, if_neg fun e => hq e.1, Int.add_zero]; exact h.ky k
   ·rw [cU_snoc, pU_snoc, if_neg fun e => hq e.1, if_neg fun e => hq e.1, Int.add_zero, Int.add_zero]; exact h.vl k
   ·rw [cA_snoc, if_neg hq, Int.add_zero]; exact h.sc
   ·rw [pA_snoc, if_neg hq, Int.add_zero]; exact h.sp
theorem tabU_nil : TabOk q [] [] := ⟨List.nodup_nil, fun k => by simp [cU], fun k => rfl, rfl, rfl⟩
end
theorem quota_in {a0 : S1089} (h : s1047 a0 = 0) : s1051 a0.Night = 0 ∧ okS a0.Season ∧ (0 ≤ a0.Count ∧ a0.Count ≤ 100000) ∧ (0 ≤ a0.Points ∧ a0.Points ≤ 100000) := by
 unfold s1047 at h;rw [s1085_eq, s89_zero] at h;refine ⟨?_, ?_, ?_, ?_⟩
 ·have := h (s1117 (S1085.mk a0.Night.fFrom a0.Night.fTo)) (by simp);rw [s1117_eq] at this; exact this
 ·have := h (s107 (S67.mk a0.Season.Year a0.Season.Kind)) (by simp);rw [s107_eq, s41_zero] at this; exact this
 ·have := h (s1088 a0.Count 0 100000) (by simp);rw [s1088_eq, s90_zero] at this; exact this
 ·have := h (s1088 a0.Points 0 100000) (by simp);rw [s1088_eq, s90_zero] at this; exact this
theorem s1051_zero (n : S1085) : s1051 n = 0 ↔ (0 ≤ n.fFrom ∧ n.fFrom ≤ 1439) ∧ (0 ≤ n.fTo ∧ n.fTo ≤ 1439) ∧ n.fFrom ≠ n.fTo := by
 unfold s1051 s1051_j1;have h1 := s90_zero n.fFrom 0 1439;have h2 := s90_zero n.fTo 0 1439;simp only [s89_cons, s89_nil]
 by_cases c1 : s90 n.fFrom 0 1439 = 0 <;> by_cases c2 : s90 n.fTo 0 1439 = 0 <;> by_cases c3 : n.fFrom = n.fTo
 all_goals (first | rw [h1] at c1 | skip)
 all_goals simp_all
theorem season_long {s : S67} (h : okS s) : beg s + 140 ≤ nxt s := by
 obtain ⟨y, k⟩ := s;obtain ⟨h1, h2, _⟩ := h;have h1 : 2000 ≤ y := h1;have h2 : y ≤ 2272 := h2;have c1 := sun_rng (N3 y);have c2 := sun_rng (N10 y);have c3 := sun_rng (N3 (y + 1))
 have e0 : (y + 1 - 2000).toNat = (y - 2000).toNat + 1 := by omega
 have e1 : (2000 + ((y - 2000).toNat : Int)) = y := by omega
 have d1 := Dy_next (y - 2000).toNat;rw [e1] at d1;have l1 := lp_rng y;have l2 := lp_rng (y + 1);unfold beg nxt
 by_cases hk : k = kS
 ·rw [if_pos hk, if_pos hk]
  have : N10 y = N3 y + 214 := by unfold N10 N3; omega
  simp only; omega
 ·rw [if_neg hk, if_neg hk]
  have : N3 (y + 1) = N10 y + 151 + lp (y + 1) := by unfold N10 N3; rw [e0, d1]; omega
  simp only; omega
theorem movs_zero (a : List S1079) : ∀ (t : List S1079) (k : Nat), s1099_l1 a s1100 t k = 0 ↔ ∀ y ∈ t, s1100 y [] = 0
 | [], k => by simp [s1099_l1]
 | y :: t, k => by
  rw [s1099_l1];have e : s1100 y (List.take (Int.toNat ((k : Nat) : Int)) a) = s1100 y [] := rfl;rw [e]
  by_cases h : s1100 y [] = 0
  ·rw [decide_eq_false (fun hn => hn h), cond_false, movs_zero a t]; simp [h]
  ·rw [decide_eq_true h, cond_true]
   constructor
   ·intro h2; exact absurd h2 h
   ·intro h2; exact absurd (h2 y List.mem_cons_self) h
theorem movs_iff (l : List S1079) : s1027 l = 0 ↔ l.length ≤ 256 ∧ ∀ y ∈ l, s1100 y [] = 0 := by
 unfold s1027 s1099
 by_cases h : (256 : Int) < (List.length l : Int)
 ·rw [decide_eq_true h, cond_true]
  constructor
  ·intro e; exact absurd e (by decide)
  ·intro e; exact absurd e.1 (by omega)
 ·rw [decide_eq_false h, cond_false, movs_zero]
  constructor
  ·intro e; exact ⟨by omega, e⟩
  ·intro e; exact e.2
end Go.Sim
namespace Go.Proofs
open Go.RowKit Go.Shelf
attribute [local go_sem] Oper.semAt_some
theorem wd_any (d : Int) (h0 : 0 ≤ d) (h1 : d ≤ 1000000) (w : World) : Calls Tryd.prog 66 #[.int .i64 d] w fun e w' => e = .returned (.int .i64 ((d + 5) % 7)) ∧ w' = w := by
 go_enter Tryd.func66, Tryd.ntmps66
 go_wp2
 go_ret
 exact ⟨rfl, rfl⟩
theorem bits_and (a b : Int) : bits BinOp.and IntKind.i64 a b = Sim.andI a b := rfl
theorem shr_eq (m d : Int) (h0 : 0 ≤ d) (h1 : d ≤ 6) : m / 2 ^ d.toNat = Sim.shrI m d := by
 unfold Sim.shrI;rw [Nat.min_eq_left (by omega), Int.fdiv_eq_ediv_of_nonneg _ (by exact Int.le_of_lt (Int.pow_pos (by decide)))]
theorem im_any (m d : Int) (h0 : 0 ≤ d) (h1 : d ≤ 6) (w : World) : Calls Tryd.prog 65 #[.int .i64 m, .int .i64 d] w fun e w' => e = .returned (.bool (decide (Sim.andI (Sim.shrI m d) 1 = 1))) ∧ w' = w := by
 go_enter Tryd.func65, Tryd.ntmps65
 go_wp2
 go_ret
 refine ⟨?_, rfl⟩;rw [bits_and, shr_eq m d h0 h1];rw [show (Sim.andI (Sim.shrI m d) 1 == 1) = decide (Sim.andI (Sim.shrI m d) 1 = 1) by rw [Bool.eq_iff_iff]; simp]
 rfl
def inM (m d : Int) : Bool := decide (Sim.andI (Sim.shrI m ((d + 5) % 7)) 1 = 1)
def dayL (m : Int) : Nat → Int → List Int
 | 0, _ => []
 | n + 1, d => if inM m d = true then d :: dayL m n (d + 1) else dayL m n (d + 1)
theorem im_T (m d : Int) (hm : inM m d = true) (h0 : 0 ≤ d) (h1 : d ≤ 1000000) (w : World) : Calls Tryd.prog 65 #[.int .i64 m, .int .i64 ((d + 5) % 7)] w fun e w' => e = .returned (.bool true) ∧ w' = w :=
 (im_any m ((d + 5) % 7) (by omega) (by omega) w).mono fun e w' ⟨h, k⟩ => ⟨by rw [h]; unfold inM at hm; rw [hm], k⟩
theorem im_F (m d : Int) (hm : inM m d = false) (h0 : 0 ≤ d) (h1 : d ≤ 1000000) (w : World) : Calls Tryd.prog 65 #[.int .i64 m, .int .i64 ((d + 5) % 7)] w fun e w' => e = .returned (.bool false) ∧ w' = w :=
 (im_any m ((d + 5) % 7) (by omega) (by omega) w).mono fun e w' ⟨h, k⟩ => ⟨by rw [h]; unfold inM at hm; rw [hm], k⟩
set_option maxRecDepth 100000 in
set_option maxHeartbeats 1000000 in
theorem days1_in (F : Fence) (n : Nat) (h6 : F.fn 64) (h7 : F.fn 65) (h8 : F.fn 66) (hro : F.round = none) (hw : F = Fence.wide) (hn : 2 ≤ n) (l b o n₀ : Nat) (hb : b < n₀) (f t m : Int) (hf : 0 ≤ f) (ht : t ≤ 1000000) (J Jx : List Int → World → Prop) (hJd : ∀ pre W k, J pre W → J pre (W.drewN k))
  (hY : ∀ pre x W, J pre W → pre.length < (dayL m (t + 1 - f).toNat f).length → YieldAt F (n - 1) Tryd.prog l #[.int .i64 x] W fun e W' =>
   (e = .returned (.bool true) ∧ J (pre ++ [x]) W' ∧ Below n₀ W W') ∨ (e = .returned (.bool false) ∧ Jx (pre ++ [x]) W'))
  (W : World) (c0 : W.cell? ⟨b, o, none⟩ = some (.int .i64 f)) (c1 : W.cell? ⟨b, o + 1, none⟩ = some (.int .i64 t)) (c2 : W.cell? ⟨b, o + 2, none⟩ = some (.int .i64 m)) (h0 : J [] W) :
  CallsIn F n Tryd.prog 64 #[.func (.yield l) #[] #[], .pointer (some ⟨b, o, none⟩)] W fun e W' => (∃ v, e = .returned v) ∧
   ((∃ ys, ys = dayL m (t + 1 - f).toNat f ∧ J ys W') ∨ (∃ pre, pre <+: dayL m (t + 1 - f).toNat f ∧ Jx pre W')) := by
 refine callsIn_of_wp Tryd.func64 rfl h6 ?_ hro;simp only [Tryd.ntmps64, List.size_toArray, List.length_cons, List.length_nil, Nat.reduceAdd, Nat.reduceSub, Array.replicate_succ, Array.replicate_zero, List.push_toArray, List.append_toArray, List.nil_append, List.cons_append];subst hw
 gi_wp2
 gi_loopw [3] (fun p wr => ∃ (pre : List Int) (d : Int), p = .int .i64 d ∧ f ≤ d ∧ (d ≤ t + 1 ∨ d = f) ∧ dayL m (t + 1 - f).toNat f = pre ++ dayL m (t + 1 - d).toNat d ∧ wr.cell? ⟨b, o + 1, none⟩ = some (.int .i64 t) ∧ wr.cell? ⟨b, o + 2, none⟩ = some (.int .i64 m) ∧ J pre wr)
  (fun p _ => (t + 1 - intOf p).toNat)
 case atStart => exact ⟨[], f, rfl, Int.le_refl _, .inr rfl, rfl, c1, c2, h0⟩
 case round =>
  clear c0 c1 c2 h0;obtain ⟨pre, d, rfl, hd1, hd2, hx, c1, c2, hJs⟩ := hrel
  by_cases hlt : d ≤ t
  ·have hs : dayL m (t + 1 - d).toNat d = if inM m d = true then d :: dayL m (t + 1 - (d + 1)).toNat (d + 1) else dayL m (t + 1 - (d + 1)).toNat (d + 1) := by
    obtain ⟨k, hk⟩ : ∃ k, (t + 1 - d).toNat = k + 1 := ⟨(t - d).toNat, by omega⟩;rw [hk, dayL, show (t + 1 - (d + 1)).toNat = k by omega]
   by_cases hm : inM m d = true
   ·obtain ⟨fn, tmps, assign, body, hy, hR'⟩ := YieldAt.mono (hY pre d wr.drew (hJd _ _ 1 hJs) (by rw [hx, hs, if_pos hm]; simp)) (R' := fun e W' => ∃ bb : Bool, e = .returned (.bool bb) ∧ ((bb = true → J (pre ++ [d]) W' ∧ Below n₀ wr.drew W') ∧ (bb = false → Jx (pre ++ [d]) W'))) (by
     rintro e W' (⟨rfl, k1, k2⟩ | ⟨rfl, k1⟩)
     ·exact ⟨true, rfl, (fun _ => ⟨k1, k2⟩), (fun h => (by cases h))⟩
     ·exact ⟨false, rfl, (fun h => (by cases h)), (fun _ => k1)⟩)
    have X1 := Lib.hid hx; clear hx;have X2 := Lib.hid hs; clear hs
    gi_wp2
    gi_region_with (first | (refine ⟨fun h => (by cases h), ?_⟩; gi_at_call 66; refine (callsIn_wide.2 (wd_any _ (by omega) (by omega) _)).mono ?_; rintro e w' ⟨rfl, rfl⟩) | (refine ⟨fun h => (by cases h), ?_⟩; gi_at_call 65; refine (callsIn_wide.2 (im_T _ _ hm (by omega) (by omega) _)).mono ?_; rintro e w' ⟨rfl, rfl⟩) | (refine ⟨fun h => (by cases h), ?_⟩; refine hR'.mono ?_; rintro e W' ⟨bb, rfl, hT, hF⟩))
    all_goals
     cases bb with
     | true =>
      obtain ⟨hJ3, hk3⟩ := hT rfl;clear hT hF;have e1 : W'.cell? ⟨b, o + 1, none⟩ = some (.int .i64 t) := (hk3.cell (p := ⟨b, o + 1, none⟩) hb).trans c1;have e2 : W'.cell? ⟨b, o + 2, none⟩ = some (.int .i64 m) := (hk3.cell (p := ⟨b, o + 2, none⟩) hb).trans c2
      go_simp
      gi_wp2
      go_roundw
      case rel => exact ⟨pre ++ [d], d + 1, rfl, by omega, by omega, by rw [X1.out, X2.out, if_pos hm]; simp, e1, e2, hJ3⟩
      case measure => simp [intOf]; omega
     | false =>
      have hX := hF rfl;clear hT hF
      go_simp
      gi_wp2
      refine bodyPost_ret (results_none rfl _ _ _) rfl ?_;exact ⟨⟨_, rfl⟩, .inr ⟨pre ++ [d], ⟨dayL m (t + 1 - (d + 1)).toNat (d + 1), by rw [X1.out, X2.out, if_pos hm]; simp⟩, hX⟩⟩
   ·have hm' : inM m d = false := by simpa using hm
    have X1 := Lib.hid hx; clear hx;have X2 := Lib.hid hs; clear hs
    gi_wp2
    refine wpIn_region_quiet_lit rfl (by kernel_rfl) (by kernel_rfl) ?_
    repeat (gi_big_quiet_step (fail))
    gi_big_quiet_step ((refine ⟨fun h => (by cases h), ?_⟩; exact CallsIn.quiet_of_same (callsIn_wide.2 (wd_any d (by omega) (by omega) _))))
    repeat (gi_big_quiet_step (fail))
    gi_big_quiet_step ((refine ⟨fun h => (by cases h), ?_⟩; exact CallsIn.quiet_of_same (callsIn_wide.2 (im_F m d hm' (by omega) (by omega) _))))
    repeat (gi_big_quiet_step (fail))
    refine BigFrame.wpQuietIn_skip (fun _ _ _ _ => trivial) (by rfl) ?_;simp only [Act.put, List.setIfInBounds_toArray, List.set_cons_succ, List.set_cons_zero]
    repeat (gi_big_quiet_step (fail))
    refine wpQuietIn_nil ?_;intro _ hw';obtain ⟨nq, hw''⟩ := hw';subst hw''
    gi_wp2
    go_roundw
    case rel => exact ⟨pre, d + 1, rfl, by omega, by omega, by rw [X1.out, X2.out, if_neg hm], c1, c2, hJd _ _ _ hJs⟩
    case measure => simp [intOf]; omega
  ·have hs : dayL m (t + 1 - d).toNat d = [] := by rw [show (t + 1 - d).toNat = 0 by omega]; rfl
   have X1 := Lib.hid hx; clear hx;have X2 := Lib.hid hs; clear hs
   gi_wp2
   go_end0
   refine ⟨⟨_, rfl⟩, .inl ?_⟩
   have : dayL m (t + 1 - f).toNat f = pre := by rw [X1.out, X2.out]; simp
   rw [this]; exact hJs
theorem days_stops (n : Nat) (hn : 2 ≤ n) (b o n₀ : Nat) (f t m : Int) (hf : 0 ≤ f) (ht : t ≤ 1000000) (w : World) (hb : b < n₀) (hn₀ : n₀ ≤ w.heap.size) (c0 : w.cell? ⟨b, o, none⟩ = some (.int .i64 f)) (c1 : w.cell? ⟨b, o + 1, none⟩ = some (.int .i64 t)) (c2 : w.cell? ⟨b, o + 2, none⟩ = some (.int .i64 m)) :
  SeqStopsK Fence.wide n Tryd.prog 64 #[.pointer (some ⟨b, o, none⟩)] (fun x : Int => #[Value.int .i64 x]) (Below n₀) (fun ys => ys = dayL m (t + 1 - f).toNat f) (fun pre => pre <+: dayL m (t + 1 - f).toNat f) (dayL m (t + 1 - f).toNat f).length w := fun l J Jx W hW hJ _ hY h0 =>
 days1_in Fence.wide n trivial trivial trivial rfl rfl hn l b o n₀ hb f t m hf ht J Jx (fun pre W k h => hJ pre W (W.drewN k) none h ⟨rfl, rfl, rfl, Nat.le_refl _, fun _ _ _ => rfl⟩ (fun r e => by cases e)) hY W
  ((hW.cell (p := ⟨b, o, none⟩) (Nat.lt_of_lt_of_le hb hn₀)).trans c0) ((hW.cell (p := ⟨b, o + 1, none⟩) (Nat.lt_of_lt_of_le hb hn₀)).trans c1) ((hW.cell (p := ⟨b, o + 2, none⟩) (Nat.lt_of_lt_of_le hb hn₀)).trans c2) h0
theorem dayL_len (m : Int) : ∀ (n : Nat) (d : Int), (dayL m n d).length ≤ n
 | 0, _ => Nat.le_refl _
 | n + 1, d => by
  unfold dayL;have := dayL_len m n (d + 1)
  split <;> simp <;> omega
theorem yes_any (x : Int) (w : World) : Calls Tryd.prog 74 #[.int .i64 x] w fun e w' => e = .returned (.bool true) ∧ w' = w := by
 go_enter Tryd.func74, Tryd.ntmps74
 go_wp2
 go_ret
 exact ⟨rfl, rfl⟩
end Go.Proofs
namespace Go.Proofs
open Go.RowKit Go.Shelf
attribute [local go_sem] Oper.semAt_some
theorem yes_any2 (x : Int) (w : World) : Calls Tryd.prog 74 #[.int .i64 x] w fun e w' => e = .returned (.bool true) ∧ w = w' := (yes_any x w).mono fun _ _ ⟨h, k⟩ => ⟨h, k.symm⟩
theorem info3 : (Tryd.prog.info? 3).map (fun i => (i.zero, i.size, i.bytes)) = some (some (.int .i64 0), 1, 8) := by kernel_rfl
set_option maxRecDepth 100000 in
set_option maxHeartbeats 2000000 in
theorem collected_in (b o : Nat) (f t m : Int) (hf : 0 ≤ f) (ht : t ≤ 1000000) (w : World) (hb : b < w.heap.size) (c0 : w.cell? ⟨b, o, none⟩ = some (.int .i64 f)) (c1 : w.cell? ⟨b, o + 1, none⟩ = some (.int .i64 t)) (c2 : w.cell? ⟨b, o + 2, none⟩ = some (.int .i64 m)) :
  CallsIn Fence.wide 4 Tryd.prog 35 #[.func (.func 64) #[] #[.pointer (some ⟨b, o, none⟩)], .func (.func 74) #[] #[]] w fun e W' => ∃ v, e = .returned v ∧ W'.ownsRow (w.heap.size + 1) 3 1 v (dayL m (t + 1 - f).toNat f).length ((dayL m (t + 1 - f).toNat f).map (Value.int .i64)) ∧ (v = .slice none 0 0 ↔ dayL m (t + 1 - f).toNat f = []) ∧ Below w.heap.size w W' := by
 obtain ⟨i0, hi, hz0, hz1, hz2⟩ := info_parts info3;have hlen := dayL_len m (t + 1 - f).toNat f
 have hlen2 : (t + 1 - f).toNat ≤ 1000001 := by omega
 refine callsIn_of_wp_marks Tryd.func35 rfl trivial ?_ rfl;simp only [Tryd.ntmps35, List.size_toArray, List.length_cons, List.length_nil, Nat.reduceAdd, Nat.reduceSub, Array.replicate_succ, Array.replicate_zero, List.push_toArray, List.append_toArray, List.nil_append, List.cons_append]
 gi_wp2
 have bO := Boxed.new (w.alloc (.cells #[.func (.func 74) #[] #[]] 90)) 52 (.slice none 0 0);rw [World.size_alloc] at bO;have bF := (Boxed.new w 90 (.func (.func 74) #[] #[])).cell;have hB00 : Below w.heap.size w (w.alloc (.cells #[.func (.func 74) #[] #[]] 90)) := (Below.refl _ w).alloc (Nat.le_refl _) _;have hB0 : Below (w.heap.size + 1) (w.alloc (.cells #[.func (.func 74) #[] #[]] 90)) ((w.alloc (.cells #[.func (.func 74) #[] #[]] 90)).alloc (.cells #[.slice none 0 0] 52)) := (Below.refl _ _).alloc (by simp) _;have hB1 : Below w.heap.size w ((w.alloc (.cells #[.func (.func 74) #[] #[]] 90)).alloc (.cells #[.slice none 0 0] 52)) := hB00.trans (hB0.mono (by omega));refine wpIn_rangeFunc_ownG rfl (by decide) (gf := 64) (lb := #[.pointer (some ⟨b, o, none⟩)]) rfl trivial (enters_of Tryd.func64 (by kernel_rfl) rfl)
  (days_stops 3 (by decide) b o (w.heap.size + 1) f t m hf ht _ (by omega) (by simp) ((hB1.cell (p := ⟨b, o, none⟩) hb).trans c0) ((hB1.cell (p := ⟨b, o + 1, none⟩) hb).trans c1) ((hB1.cell (p := ⟨b, o + 2, none⟩) hb).trans c2)) belowK_t (belowK_b (by simp)) (Below.refl _ _) (fun _ => rfl)
  (fun pre W => (∃ v, Boxed W (w.heap.size + 1) 52 v ∧ W.ownsRow (w.heap.size + 1) 3 1 v pre.length (pre.map (Value.int .i64)) ∧ (v = .slice none 0 0 ↔ pre = [])) ∧ Below (w.heap.size + 1) (w.alloc (.cells #[.func (.func 74) #[] #[]] 90)) W)
  (fun _ _ _ => False)
  (OwnFrom.and (Own.from (holdsRow_own (w.heap.size + 1) (w.heap.size + 1) 52 3 1 (fun pre : List Int => pre.length) (fun pre => pre.map (Value.int .i64)) (fun pre v => v = .slice none 0 0 ↔ pre = [])) _) (ownFrom_below (by simp) (by simp)))
  (fun _ _ _ _ _ hs _ _ => hs)
  ⟨⟨_, bO, World.ownsRow_nil _ _ _ _, by simp⟩, hB0⟩
  (fun x => { tmps := #[Value.func (Fn.func 64) #[] #[Value.pointer (some { block := b, off := o })],
     Value.func (Fn.func 74) #[] #[], undef, Value.pointer (some { block := w.heap.size, off := 0 }),
     Value.slice none 0 0, Value.pointer (some { block := w.heap.size + 1, off := 0 }), .int .i64 x,
     Value.func (Fn.func 64) #[] #[Value.pointer (some { block := b, off := o })], .int .i64 x, undef, undef, undef,
     undef, undef, undef, undef, undef], defers := [] }) ?assign ?body ?done ?stop
 case assign =>
  intro l x W K hK
  gi_wp2
  exact hK
 case body =>
  rintro l pre x W ⟨⟨v, hv, hrow, hnil⟩, hB⟩ hlt;have hc := hv.cell;have hfc : W.cell? ⟨w.heap.size, 0, none⟩ = some (.func (.func 74) #[] #[]) := (hB.cell (p := ⟨w.heap.size, 0, none⟩) (by simp)).trans bF
  gi_wp2_with (first | (gi_at_call 74; refine (CallsIn.inRound l (callsIn_wide.2 (yes_any2 x _))).mono ?_; rintro e w' ⟨rfl, rfl⟩) | (refine ⟨trivial, ?_⟩; gi_at_call 74; refine (CallsIn.inRound l (callsIn_wide.2 (yes_any2 x _))).mono ?_; rintro e w' ⟨rfl, rfl⟩) | (refine ⟨fun h => (by cases h), ?_⟩; gi_at_call 74; refine (CallsIn.inRound l (callsIn_wide.2 (yes_any2 x _))).mono ?_; rintro e w' ⟨rfl, rfl⟩) | (gi_at_builtin; refine wpListIn_append_own _ rfl _ _ 52 rfl (w.heap.size + 1) 3 i0 (.int .i64 0) 1 8 Tryd.underlying52 hi hz0 hz1 hz2 rfl (by decide) _ _ _ rfl (hrow.alloc _) ⟨W.heap.size, 0, none⟩ 1 1 [.int .i64 x] rfl rfl (cell_one_new _ _ _) (by simp [Value.oneCell']) (by unfold maxLen; omega) (by omega) (by have := hB.size; simp at this ⊢; omega) ?_; intro v' w1 hown' hgrow _; obtain ⟨g', cap', rfl⟩ := ownsRow_succ hown'; obtain ⟨hv1, hv2, hr2, hk2, hb2⟩ := hv.appended (by decide) hrow (by have := hB.size; simp at this ⊢; omega) (Nat.le_refl _) hown' hgrow; have hc1 := hv1.cell; have hf1 := hv1.frozen))
  exact ⟨hk2.from _, hb2, ⟨_, hv2, by simpa using hr2, by simp⟩, hB.trans hb2⟩
 case done =>
  rintro D ys W hD rfl ⟨⟨v, hv, hrow, hnil⟩, hB⟩ hK;have hc := hv.cell
  gi_wp2
  refine ⟨by simp, .inl ⟨_, _, rfl, run_takeDeferred hK, ?_⟩⟩;exact ⟨_, results_tmp rfl _ _ _, v, rfl, ownsRow_putObj hrow _ hK rfl, hnil, hB00.trans ((hB.mono (by omega)).trans (belowK_b (w := w) (Nat.le_refl _) W D _ _ (by simp at hD; omega) hK rfl rfl))⟩
 case stop =>
  rintro D c pre W _ _ h _;exact h.elim
end Go.Proofs
namespace Go.Sim
theorem wd_nn {f t x : Int} (hf : 0 ≤ f) (ht : t ≤ 1000000) (h : ((decide (f ≤ x) && decide (x ≤ t)) == true) = true) : 0 ≤ s188 x := by
 have h1 : f ≤ x ∧ x ≤ t := by simpa using h
 unfold s188;rw [wrap_i64 (by unfold I64; omega)];exact Int.tmod_nonneg 7 (by omega)
end Go.Sim
set_option maxRecDepth 10000
namespace Go.Sim
open Go.Proofs
def s2038 (a0 : S45) (a1 : Int) : Bool :=
 ((decide (a0.fFrom ≤ a1)) && (decide (a1 ≤ a0.fTo))) && (s187 a0.Days (s188 a1))
theorem c2038 {g : List (Nat × List Value)} (a0 : S45) (a1 : Int)  (hf : 0 ≤ a0.fFrom) (ht : a0.fTo ≤ 1000000)  : Con (EG g) 38 [G.agg [G.int a0.fFrom, G.int a0.fTo, G.int a0.Days], G.int a1] (G.bool (s2038 a0 a1)) := by
 generalize hR : s2038 a0 a1 = R;unfold s2038 at hR;refine con_of_aw Tryd.func38 rfl rfl fun w0 M0 => ?_;refine aw_seq ?_;refine aw_region [.p, .p] ?_;refine st rfl rfl (eff_box rfl rfl) rfl ?_;refine st rfl rfl (eff_assigng rfl rfl) rfl ?_;refine st_nil ?_;refine aw_seq ?_;refine aw_draw [.p, .p, .p, .p, .p, .p, .p, .p, .p, .p, .p, .p, .p, .p, .p, .p, .p, .p] (by kernel_rfl) ?_;refine st rfl rfl (eff_moveg rfl rfl) rfl ?_;refine st rfl rfl (eff_fieldAddr rfl fl46_0 rfl) rfl ?_;refine st rfl rfl (eff_load rfl ty3 rfl) rfl ?_;refine st rfl rfl (eff_geq rfl rfl rfl) rfl ?_;refine st rfl rfl (eff_moveg rfl rfl) rfl ?_;refine st_g rfl rfl rfl (gb_bool _ _) (fun h => eff_moveg rfl rfl) rfl ?_;refine st_g rfl rfl rfl (gb_bool _ _) (fun h => eff_fieldAddr rfl fl46_1 rfl) rfl ?_;refine st_g rfl rfl rfl (gb_bool _ _) (fun h => eff_load rfl ty3 (gd h rfl)) rfl ?_;refine st_g rfl rfl rfl (gb_bool _ _) (fun h => eff_leq rfl (gd h rfl) (gd h rfl)) rfl ?_;refine st rfl rfl (eff_and rfl rfl rfl rfl) rfl ?_;refine st rfl rfl (eff_moveg rfl rfl) rfl ?_;refine st_g rfl rfl rfl (gb_bool _ _) (fun h => eff_fieldAddr rfl fl46_2 rfl) rfl ?_;refine st_g rfl rfl rfl (gb_bool _ _) (fun h => eff_load rfl ty3 (gd h rfl)) rfl ?_;refine st_g rfl rfl rfl (gb_bool _ _) (fun h => eff_moveg rfl rfl) rfl ?_;refine st_g rfl rfl rfl (gb_bool _ _) (fun h => eff_call rfl K188 rfl (c188 a1) (ag_cons (gd h rfl) ag_nil)) rfl ?_;refine st_g rfl rfl rfl (gb_bool _ _) (fun h => eff_call rfl K187 rfl (c187 a0.Days (s188 a1) (wd_nn hf ht h)) (ag_cons (gd h rfl) (ag_cons (gd h rfl) ag_nil))) rfl ?_;refine st rfl rfl (eff_and rfl rfl rfl rfl) rfl ?_;refine st rfl rfl (eff_assigng rfl rfl) rfl ?_;refine st_nil ?_;refine aw_ret ?_;subst hR;exact res_c rfl (rv_g rfl)
def s2037 (a0 : Int) (a1 : S45) : Bool :=
 (s2038 a1 a0)
theorem c2037 {g : List (Nat × List Value)} (a0 : Int) (a1 : S45)  (hf : 0 ≤ a1.fFrom) (ht : a1.fTo ≤ 1000000)  : Con (EG g) 37 [G.int a0, G.ref [G.int a1.fFrom, G.int a1.fTo, G.int a1.Days]] (G.bool (s2037 a0 a1)) := by
 generalize hR : s2037 a0 a1 = R;unfold s2037 at hR;refine con_of_aw Tryd.func37 rfl rfl fun w0 M0 => ?_;refine aw_seq ?_;refine aw_region [.p] ?_;refine st rfl rfl (eff_assigng rfl rfl) rfl ?_;refine st_nil ?_;refine aw_seq ?_;refine aw_region [.p, .p, .p, .p] ?_;refine st rfl rfl (eff_loadA rfl ty46 rfl rfl rfl) rfl ?_;refine st rfl rfl (eff_moveg rfl rfl) rfl ?_;refine st rfl rfl (eff_call rfl K2038 rfl (c2038 a1 a0 (by first | assumption | omega | (simp [copyL_len]; done) | (simp [copyL_len]; omega)) (by first | assumption | omega | (simp [copyL_len]; done) | (simp [copyL_len]; omega))) (ag_cons rfl (ag_cons rfl ag_nil))) rfl ?_;refine st rfl rfl (eff_assigng rfl rfl) rfl ?_;refine st_nil ?_;refine aw_ret ?_;subst hR;exact res_c rfl (rv_g rfl)
end Go.Sim
namespace Go.Proofs
open Go.RowKit Go.Shelf
attribute [local go_sem] Oper.semAt_some
def hasB (f t m d : Int) : Bool := (decide (f ≤ d) && decide (d ≤ t)) && inM m d
theorem has_eq {f t m d : Int} (hf : 0 ≤ f) (ht : t ≤ 1000000) : Sim.s2037 d ⟨f, t, m⟩ = hasB f t m d := by
 unfold Sim.s2037 Sim.s2038 hasB;show ((decide (f ≤ d) && decide (d ≤ t)) && Sim.s187 m (Sim.s188 d)) = _
 by_cases h1 : f ≤ d
 ·by_cases h2 : d ≤ t
  ·congr 1
   unfold Sim.s188 Sim.s187 inM;rw [Sim.wrap_i64 (by unfold Sim.I64; omega), Int.tmod_eq_emod_of_nonneg (by omega)]
  ·simp [h2]
 ·simp [h1]
theorem glOk_nil0 {w : World} {M : Nat → Prop} : Sim.GlOk (Sim.EG []) w M := fun g vs h => by cases h
theorem meet1_any (f t m d : Int) (hf : 0 ≤ f) (ht : t ≤ 1000000) (w : World) (b o : Nat) (c0 : w.cell? ⟨b, o, none⟩ = some (.int .i64 f)) (c1 : w.cell? ⟨b, o + 1, none⟩ = some (.int .i64 t)) (c2 : w.cell? ⟨b, o + 2, none⟩ = some (.int .i64 m)) :
  Calls Tryd.prog 37 #[.int .i64 d, .pointer (some ⟨b, o, none⟩)] w fun e w' => e = .returned (.bool (hasB f t m d)) ∧ Below w.heap.size w w' := by
 refine (Sim.c2037 (g := []) d ⟨f, t, m⟩ hf ht w (fun _ => False) [.int .i64 d, .pointer (some ⟨b, o, none⟩)] (fun _ h => h.elim) glOk_nil0 ⟨rfl, ⟨b, o, rfl, .inr (fun h => h), ⟨_, c0, rfl, rfl⟩, ⟨_, c1, rfl, rfl⟩, ⟨_, c2, rfl, rfl⟩, trivial⟩, trivial⟩).mono ?_;rintro e w' ⟨v, rfl, h1, h2⟩;have h2 : v = _ := h2;rw [has_eq hf ht] at h2;exact ⟨by rw [h2], h1⟩
theorem below_grown {w w' : World} (h : Below w.heap.size w w') : w.grownBy w' none := ⟨h.os, h.tape, h.output, h.size, fun k hk _ => h.block k hk⟩
theorem meet1_T {f t m d : Int} (hq : hasB f t m d = true) (hf : 0 ≤ f) (ht : t ≤ 1000000) (w : World) {b o : Nat} (c0 : w.cell? ⟨b, o, none⟩ = some (.int .i64 f)) (c1 : w.cell? ⟨b, o + 1, none⟩ = some (.int .i64 t)) (c2 : w.cell? ⟨b, o + 2, none⟩ = some (.int .i64 m)) :
  Calls Tryd.prog 37 #[.int .i64 d, .pointer (some ⟨b, o, none⟩)] w fun e w' => e = .returned (.bool true) ∧ Below w.heap.size w w' :=
 (meet1_any f t m d hf ht w b o c0 c1 c2).mono fun _ _ ⟨h, k⟩ => ⟨by rw [h, hq], k⟩
theorem meet1_F {f t m d : Int} (hq : hasB f t m d = false) (hf : 0 ≤ f) (ht : t ≤ 1000000) (w : World) {b o : Nat} (c0 : w.cell? ⟨b, o, none⟩ = some (.int .i64 f)) (c1 : w.cell? ⟨b, o + 1, none⟩ = some (.int .i64 t)) (c2 : w.cell? ⟨b, o + 2, none⟩ = some (.int .i64 m)) :
  Calls Tryd.prog 37 #[.int .i64 d, .pointer (some ⟨b, o, none⟩)] w fun e w' => e = .returned (.bool false) ∧ Below w.heap.size w w' :=
 (meet1_any f t m d hf ht w b o c0 c1 c2).mono fun _ _ ⟨h, k⟩ => ⟨by rw [h, hq], k⟩
set_option maxRecDepth 100000 in
set_option maxHeartbeats 2000000 in
theorem collected_meet (b o : Nat) (f t m : Int) (hf : 0 ≤ f) (ht : t ≤ 1000000) (b2 o2 : Nat) (f2 t2 m2 : Int) (hf2 : 0 ≤ f2) (ht2 : t2 ≤ 1000000) (w : World) (hb : b < w.heap.size) (hb2 : b2 < w.heap.size) (d0 : w.cell? ⟨b2, o2, none⟩ = some (.int .i64 f2)) (d1 : w.cell? ⟨b2, o2 + 1, none⟩ = some (.int .i64 t2)) (d2 : w.cell? ⟨b2, o2 + 2, none⟩ = some (.int .i64 m2)) (c0 : w.cell? ⟨b, o, none⟩ = some (.int .i64 f)) (c1 : w.cell? ⟨b, o + 1, none⟩ = some (.int .i64 t)) (c2 : w.cell? ⟨b, o + 2, none⟩ = some (.int .i64 m)) :
  CallsIn Fence.wide 4 Tryd.prog 35 #[.func (.func 64) #[] #[.pointer (some ⟨b, o, none⟩)], .func (.func 37) #[] #[.pointer (some ⟨b2, o2, none⟩)]] w fun e W' => ∃ v, e = .returned v ∧ W'.ownsRow (w.heap.size + 1) 3 1 v ((dayL m (t + 1 - f).toNat f).filter (hasB f2 t2 m2)).length (((dayL m (t + 1 - f).toNat f).filter (hasB f2 t2 m2)).map (Value.int .i64)) ∧ Below w.heap.size w W' := by
 obtain ⟨i0, hi, hz0, hz1, hz2⟩ := info_parts info3;have hlen := dayL_len m (t + 1 - f).toNat f
 have hlen2 : (t + 1 - f).toNat ≤ 1000001 := by omega
 refine callsIn_of_wp_marks Tryd.func35 rfl trivial ?_ rfl;simp only [Tryd.ntmps35, List.size_toArray, List.length_cons, List.length_nil, Nat.reduceAdd, Nat.reduceSub, Array.replicate_succ, Array.replicate_zero, List.push_toArray, List.append_toArray, List.nil_append, List.cons_append]
 gi_wp2
 have bO := Boxed.new (w.alloc (.cells #[.func (.func 37) #[] #[.pointer (some ⟨b2, o2, none⟩)]] 90)) 52 (.slice none 0 0);rw [World.size_alloc] at bO;have bF := (Boxed.new w 90 (.func (.func 37) #[] #[.pointer (some ⟨b2, o2, none⟩)])).cell;have hB00 : Below w.heap.size w (w.alloc (.cells #[.func (.func 37) #[] #[.pointer (some ⟨b2, o2, none⟩)]] 90)) := (Below.refl _ w).alloc (Nat.le_refl _) _;have hB0 : Below (w.heap.size + 1) (w.alloc (.cells #[.func (.func 37) #[] #[.pointer (some ⟨b2, o2, none⟩)]] 90)) ((w.alloc (.cells #[.func (.func 37) #[] #[.pointer (some ⟨b2, o2, none⟩)]] 90)).alloc (.cells #[.slice none 0 0] 52)) := (Below.refl _ _).alloc (by simp) _;have hB1 : Below w.heap.size w ((w.alloc (.cells #[.func (.func 37) #[] #[.pointer (some ⟨b2, o2, none⟩)]] 90)).alloc (.cells #[.slice none 0 0] 52)) := hB00.trans (hB0.mono (by omega));refine wpIn_rangeFunc_ownG rfl (by decide) (gf := 64) (lb := #[.pointer (some ⟨b, o, none⟩)]) rfl trivial (enters_of Tryd.func64 (by kernel_rfl) rfl)
  (days_stops 3 (by decide) b o (w.heap.size + 1) f t m hf ht _ (by omega) (by simp) ((hB1.cell (p := ⟨b, o, none⟩) hb).trans c0) ((hB1.cell (p := ⟨b, o + 1, none⟩) hb).trans c1) ((hB1.cell (p := ⟨b, o + 2, none⟩) hb).trans c2)) belowK_t (belowK_b (by simp)) (Below.refl _ _) (fun _ => rfl)
  (fun pre W => (∃ v, Boxed W (w.heap.size + 1) 52 v ∧ W.ownsRow (w.heap.size + 1) 3 1 v (pre.filter (hasB f2 t2 m2)).length ((pre.filter (hasB f2 t2 m2)).map (Value.int .i64)) ∧ True) ∧ Below (w.heap.size + 1) (w.alloc (.cells #[.func (.func 37) #[] #[.pointer (some ⟨b2, o2, none⟩)]] 90)) W)
  (fun _ _ _ => False)
  (OwnFrom.and (Own.from (holdsRow_own (w.heap.size + 1) (w.heap.size + 1) 52 3 1 (fun pre : List Int => (pre.filter (hasB f2 t2 m2)).length) (fun pre => (pre.filter (hasB f2 t2 m2)).map (Value.int .i64)) (fun _ _ => True)) _) (ownFrom_below (by simp) (by simp)))
  (fun _ _ _ _ _ hs _ _ => hs)
  ⟨⟨_, bO, World.ownsRow_nil _ _ _ _, trivial⟩, hB0⟩
  (fun x => { tmps := #[Value.func (Fn.func 64) #[] #[Value.pointer (some { block := b, off := o })],
     Value.func (Fn.func 37) #[] #[Value.pointer (some { block := b2, off := o2 })], undef, Value.pointer (some { block := w.heap.size, off := 0 }),
     Value.slice none 0 0, Value.pointer (some { block := w.heap.size + 1, off := 0 }), .int .i64 x,
     Value.func (Fn.func 64) #[] #[Value.pointer (some { block := b, off := o })], .int .i64 x, undef, undef, undef,
     undef, undef, undef, undef, undef], defers := [] }) ?assign ?body ?done ?stop
 case assign =>
  intro l x W K hK
  gi_wp2
  exact hK
 case body =>
  rintro l pre x W ⟨⟨v, hv, hrow, hnil⟩, hB⟩ hlt;have hc := hv.cell
  have hSz : w.heap.size + 1 ≤ W.heap.size := by have := hB.size; simpa using this
  have g0 : W.cell? ⟨b2, o2, none⟩ = some (.int .i64 f2) := (hB.cell (p := ⟨b2, o2, none⟩) (by show b2 < w.heap.size + 1; omega)).trans ((hB00.cell (p := ⟨b2, o2, none⟩) hb2).trans d0);have g1 : W.cell? ⟨b2, o2 + 1, none⟩ = some (.int .i64 t2) := (hB.cell (p := ⟨b2, o2 + 1, none⟩) (by show b2 < w.heap.size + 1; omega)).trans ((hB00.cell (p := ⟨b2, o2 + 1, none⟩) hb2).trans d1);have g2 : W.cell? ⟨b2, o2 + 2, none⟩ = some (.int .i64 m2) := (hB.cell (p := ⟨b2, o2 + 2, none⟩) (by show b2 < w.heap.size + 1; omega)).trans ((hB00.cell (p := ⟨b2, o2 + 2, none⟩) hb2).trans d2);have hfc : W.cell? ⟨w.heap.size, 0, none⟩ = some (.func (.func 37) #[] #[.pointer (some ⟨b2, o2, none⟩)]) := (hB.cell (p := ⟨w.heap.size, 0, none⟩) (by simp)).trans bF
  by_cases hq : hasB f2 t2 m2 x = true
  ·gi_wp2_with (first | (gi_at_call 37; refine (CallsIn.inRound l (callsIn_wide.2 (meet1_T hq hf2 ht2 _ g0 g1 g2))).mono ?_; rintro e w1 ⟨rfl, hK1⟩; have hG1 := below_grown hK1; have hv := hv.kept hG1 (by simp); have hrow := hrow.kept hG1 (Classical.em _); have hB := hB.trans (hK1.mono (by first | exact hSz | (simp; omega))); have hc := hv.cell) | (refine ⟨trivial, ?_⟩; gi_at_call 37; refine (CallsIn.inRound l (callsIn_wide.2 (meet1_T hq hf2 ht2 _ g0 g1 g2))).mono ?_; rintro e w1 ⟨rfl, hK1⟩; have hG1 := below_grown hK1; have hv := hv.kept hG1 (by simp); have hrow := hrow.kept hG1 (Classical.em _); have hB := hB.trans (hK1.mono (by first | exact hSz | (simp; omega))); have hc := hv.cell) | (refine ⟨fun h => (by cases h), ?_⟩; gi_at_call 37; refine (CallsIn.inRound l (callsIn_wide.2 (meet1_T hq hf2 ht2 _ g0 g1 g2))).mono ?_; rintro e w1 ⟨rfl, hK1⟩; have hG1 := below_grown hK1; have hv := hv.kept hG1 (by simp); have hrow := hrow.kept hG1 (Classical.em _); have hB := hB.trans (hK1.mono (by first | exact hSz | (simp; omega))); have hc := hv.cell) | (gi_at_builtin; refine wpListIn_append_own _ rfl _ _ 52 rfl (w.heap.size + 1) 3 i0 (.int .i64 0) 1 8 Tryd.underlying52 hi hz0 hz1 hz2 rfl (by decide) _ _ _ rfl (hrow.alloc _) ⟨_, 0, none⟩ 1 1 [.int .i64 x] rfl rfl (cell_one_new _ _ _) (by simp [Value.oneCell']) (by have := List.length_filter_le (hasB f2 t2 m2) pre; unfold maxLen; omega) (by have := List.length_filter_le (hasB f2 t2 m2) pre; omega) (by have := hB.size; simp at this ⊢; omega) ?_; intro v' w1 hown' hgrow _; obtain ⟨g', cap', rfl⟩ := ownsRow_succ hown'; obtain ⟨hv1, hv2, hr2, hk2, hb2⟩ := hv.appended (by decide) hrow (by have := hB.size; simp at this ⊢; omega) (Nat.le_refl _) hown' hgrow; have hc1 := hv1.cell; have hf1 := hv1.frozen))
   exact ⟨((KeepsOthers.of_grownBy hG1 (fun j o ej _ => by cases ej)).trans hk2).from _, (hK1.mono (by first | exact hSz | (simp; omega))).trans hb2, ⟨_, hv2, by simpa [List.filter_append, hq] using hr2, trivial⟩, hB.trans hb2⟩
  ·have hq : hasB f2 t2 m2 x = false := by simpa using hq
   gi_wp2_with (first | (gi_at_call 37; refine (CallsIn.inRound l (callsIn_wide.2 (meet1_F hq hf2 ht2 _ g0 g1 g2))).mono ?_; rintro e w1 ⟨rfl, hK1⟩; have hG1 := below_grown hK1; have hv := hv.kept hG1 (by simp); have hrow := hrow.kept hG1 (Classical.em _); have hB := hB.trans (hK1.mono (by first | exact hSz | (simp; omega))); have hc := hv.cell) | (refine ⟨trivial, ?_⟩; gi_at_call 37; refine (CallsIn.inRound l (callsIn_wide.2 (meet1_F hq hf2 ht2 _ g0 g1 g2))).mono ?_; rintro e w1 ⟨rfl, hK1⟩; have hG1 := below_grown hK1; have hv := hv.kept hG1 (by simp); have hrow := hrow.kept hG1 (Classical.em _); have hB := hB.trans (hK1.mono (by first | exact hSz | (simp; omega))); have hc := hv.cell) | (refine ⟨fun h => (by cases h), ?_⟩; gi_at_call 37; refine (CallsIn.inRound l (callsIn_wide.2 (meet1_F hq hf2 ht2 _ g0 g1 g2))).mono ?_; rintro e w1 ⟨rfl, hK1⟩; have hG1 := below_grown hK1; have hv := hv.kept hG1 (by simp); have hrow := hrow.kept hG1 (Classical.em _); have hB := hB.trans (hK1.mono (by first | exact hSz | (simp; omega))); have hc := hv.cell))
   exact ⟨(KeepsOthers.of_grownBy hG1 (fun j o ej _ => by cases ej)).from _, hK1.mono (by first | exact hSz | (simp; omega)), ⟨_, hv, by simpa [List.filter_append, hq] using hrow, trivial⟩, hB⟩
 case done =>
  rintro D ys W hD rfl ⟨⟨v, hv, hrow, hnil⟩, hB⟩ hK;have hc := hv.cell
  gi_wp2
  refine ⟨by simp, .inl ⟨_, _, rfl, run_takeDeferred hK, ?_⟩⟩;exact ⟨_, results_tmp rfl _ _ _, v, rfl, ownsRow_putObj hrow _ hK rfl, hB00.trans ((hB.mono (by omega)).trans (belowK_b (w := w) (Nat.le_refl _) W D _ _ (by simp at hD; omega) hK rfl rfl))⟩
 case stop =>
  rintro D c pre W _ _ h _;exact h.elim
end Go.Proofs
namespace Go.Sim
open Go.Proofs
def G.slX (k : Nat) (xs : List (List G)) : G :=
 ⟨fun w M u => (∀ c ∈ xs, c.length = k) ∧ ((xs = [] ∧ u = .slice none 0 0) ∨ ∃ b cap cur e, u = .slice (some ⟨b, 0, none⟩) xs.length cap ∧ xs.length ≤ cap ∧ cap ≤ maxLen ∧ ¬ M b ∧ w.heap[b]? = some (.cells cur e (0, 0)) ∧ cur.size = cap * k ∧ Fits w M xs.flatten (cur.toList.take (xs.length * k))), fun {w w' M M' u} h hh hM => by
  obtain ⟨h0, h⟩ := h;refine ⟨h0, ?_⟩
  rcases h with h | ⟨b, cap, cur, e, h1, h2, h3, h4, h5, h6, h7⟩
  ·exact .inl h
  ·have hlt := (Array.getElem?_eq_some_iff.1 h5).1
   exact .inr ⟨b, cap, cur, e, h1, h2, h3, fun hm => h4 (hM b hlt hm), (hh b hlt h4).trans h5, h6, h7.mono hh hM⟩⟩
instance (k : Nat) (xs : List (List G)) : One (.slX k xs) := ⟨fun ⟨_, h⟩ => by
 rcases h with ⟨_, h⟩ | ⟨_, _, _, _, h, _⟩ <;> rw [h] <;> rfl⟩
theorem slX_sl {w : World} {M : Nat → Prop} {k : Nat} {xs : List (List G)} {u : Value} (h : (G.slX k xs).p w M u) : (G.sl k xs).p w M u := by
 obtain ⟨h0, h⟩ := h
 rcases h with ⟨rfl, rfl⟩ | ⟨b, cap, cur, e, h1, h2, h3, h4, h5, h6, h7⟩
 ·exact ⟨none, 0, rfl, Nat.le_refl _, Nat.zero_le _, h0, .inl ⟨rfl, fun _ => rfl⟩⟩
 ·exact ⟨some ⟨b, 0, none⟩, cap, h1, h2, h3, h0, .inr ⟨b, 0, rfl, h4, by
   have hl := flatten_len h0;have hls := h7.length
   have : ∀ j v, (cur.toList.take (xs.length * k))[j]? = some v → w.cell? ⟨b, 0 + j, none⟩ = some v := by
    intro j v hj;rw [List.getElem?_take] at hj
    split at hj
    ·rw [cell_of_row w _ _ _ _ _ h5, Nat.zero_add]; simpa using hj
    ·cases hj
   exact cells_of_get h7 this⟩⟩
where cells_of_get {w : World} {M : Nat → Prop} {b : Nat} : ∀ {cs : List G} {vs : List Value} {o : Nat}, Fits w M cs vs → (∀ j v, vs[j]? = some v → w.cell? ⟨b, o + j, none⟩ = some v) → Cells w M b o cs
 | [], _, _, _, _ => trivial
 | c :: cs, [], _, h, _ => h.elim
 | c :: cs, v :: vs, o, h, hg => ⟨⟨v, hg 0 v rfl, h.1.1, h.1.2⟩, cells_of_get h.2 fun j u hj => by
   have := hg (j + 1) u (by simpa using hj)
   rwa [show o + (j + 1) = o + 1 + j by omega] at this⟩
theorem nil_slX (k : Nat) : ∀ w M, (G.slX k []).p w M (.slice none 0 0) := fun _ _ => ⟨by simp, .inl ⟨rfl, rfl⟩⟩
theorem flat_ints (l : List Int) : (l.map cInt).flatten = (l.map (Value.int .i64)).map G.lit := by
 induction l with
 | nil => rfl
 | cons x l ih => simp [ih]
theorem fits_lit {w : World} {M : Nat → Prop} : ∀ {vs : List Value}, (∀ v ∈ vs, v.oneCell' = true) → Fits w M (vs.map G.lit) vs
 | [], _ => trivial
 | v :: vs, h => ⟨⟨rfl, h v List.mem_cons_self⟩, fits_lit fun u hu => h u (List.mem_cons_of_mem _ hu)⟩
theorem slX_row {w w' : World} {M : Nat → Prop} {e : TypeId} {v : Value} {n0 : Nat} {l : List Int} (hM : ∀ b, M b → b < w.heap.size) (hn : w.heap.size ≤ n0) (h : w'.ownsRow n0 e 1 v l.length (l.map (Value.int .i64))) : (G.slX 1 (l.map cInt)).p w' M v := by
 obtain ⟨h1, h2⟩ := h;refine ⟨fun c hc => ?_, ?_⟩
 ·obtain ⟨x, _, rfl⟩ := List.mem_map.1 hc; rfl
 rcases h2 with ⟨rfl, h2⟩ | ⟨gg, cap, cur, rfl, g1, g2, g3, g4, g5, g6⟩
 ·exact .inl ⟨by rw [List.eq_nil_of_length_eq_zero h2]; rfl, rfl⟩
 ·refine .inr ⟨gg, cap, cur, e, by simp, by simpa using g3, g4, fun hm => by have := hM _ hm; omega, g2, g5, ?_⟩;rw [List.length_map, g6, flat_ints]
  exact fits_lit fun v hv => by obtain ⟨x, _, rfl⟩ := List.mem_map.1 hv; rfl
theorem c135X {g : List (Nat × List Value)} (f t m : Int) (hf : 0 ≤ f) (ht : t ≤ 1000000) : Con (EG g) 35 [G.fn (.func 64) [] [G.ref [G.int f, G.int t, G.int m]], G.lit (.func (.func 74) #[] #[])] (G.slX 1 (List.map cInt (dayL m (t + 1 - f).toNat f))) := by
 intro w M vs hM hgl hv
 match vs, hv with
 | [v1, v2], hv =>
  obtain ⟨⟨fs, cs, rfl, hfs, hcs⟩, rfl, _⟩ := hv
  cases fs with
  | cons _ _ => exact hfs.elim
  | nil =>
   match cs, hcs with
   | [c], hcs =>
    obtain ⟨b, o, rfl, hnm, hc⟩ := hcs.1
    have hnm : ¬ M b := by rcases hnm with h | h; cases h; exact h
    obtain ⟨⟨_, e1, e1', _⟩, ⟨_, e2, e2', _⟩, ⟨_, e3, e3', _⟩, _⟩ := hc;have e1' : _ = _ := e1'; have e2' : _ = _ := e2'; have e3' : _ = _ := e3';subst e1'; subst e2'; subst e3';have hb : b < w.heap.size := block_lt_of_cell e1;refine (callsIn_wide.1 (collected_in b o f t m hf ht w hb e1 e2 e3)).mono ?_;rintro e W' ⟨v, rfl, h1, _, h3⟩;exact ⟨v, rfl, h3, slX_row hM (Nat.le_succ _) h1⟩
theorem c135M {g : List (Nat × List Value)} (f t m f2 t2 m2 : Int) (hf : 0 ≤ f) (ht : t ≤ 1000000) (hf2 : 0 ≤ f2) (ht2 : t2 ≤ 1000000) : Con (EG g) 35 [G.fn (.func 64) [] [G.ref [G.int f, G.int t, G.int m]], G.fn (.func 37) [] [G.ref [G.int f2, G.int t2, G.int m2]]] (G.slX 1 (List.map cInt ((dayL m (t + 1 - f).toNat f).filter (hasB f2 t2 m2)))) := by
 intro w M vs hM hgl hv
 match vs, hv with
 | [v1, v2], hv =>
  obtain ⟨⟨fs, cs, rfl, hfs, hcs⟩, ⟨fs2, cs2, rfl, hfs2, hcs2⟩, _⟩ := hv
  cases fs with
  | cons _ _ => exact hfs.elim
  | nil =>
   cases fs2 with
   | cons _ _ => exact hfs2.elim
   | nil =>
    match cs, hcs, cs2, hcs2 with
    | [c], hcs, [k], hks =>
     obtain ⟨b, o, rfl, hnm, hc⟩ := hcs.1;obtain ⟨b2, o2, rfl, hnm2, hk⟩ := hks.1;obtain ⟨⟨_, e1, e1', _⟩, ⟨_, e2, e2', _⟩, ⟨_, e3, e3', _⟩, _⟩ := hc;have e1' : _ = _ := e1'; have e2' : _ = _ := e2'; have e3' : _ = _ := e3';subst e1'; subst e2'; subst e3';obtain ⟨⟨_, g1, g1', _⟩, ⟨_, g2, g2', _⟩, ⟨_, g3, g3', _⟩, _⟩ := hk;have g1' : _ = _ := g1'; have g2' : _ = _ := g2'; have g3' : _ = _ := g3';subst g1'; subst g2'; subst g3';have hb : b < w.heap.size := block_lt_of_cell e1;have hb2 : b2 < w.heap.size := block_lt_of_cell g1;refine (callsIn_wide.1 (collected_meet b o f t m hf ht b2 o2 f2 t2 m2 hf2 ht2 w hb hb2 g1 g2 g3 e1 e2 e3)).mono ?_;rintro e W' ⟨v, rfl, h1, h3⟩;exact ⟨v, rfl, h3, slX_row hM (Nat.le_succ _) h1⟩
theorem c136 {g : List (Nat × List Value)} (f t m : Int) : Con (EG g) 36 [G.agg [G.int f, G.int t, G.int m]] (G.fn (.func 64) [] [G.ref [G.int f, G.int t, G.int m]]) := by
 refine con_of_aw Tryd.func36 rfl rfl fun w0 M0 => ?_;refine aw_seq ?_;refine aw_region [.p, .p] ?_;refine st rfl rfl (eff_box rfl rfl) rfl ?_;refine st rfl rfl (eff_assigng rfl rfl) rfl ?_;refine st_nil ?_;refine aw_seq ?_;refine aw_region [.p, .p] ?_;refine st rfl rfl (eff_makeF rfl rfl rfl) rfl ?_;refine st rfl rfl (eff_assigng rfl rfl) rfl ?_;refine st_nil ?_;refine aw_ret ?_;exact res_c rfl (rv_g rfl)
theorem first2 (a b : Int) (h : s152 [a, b] = 0) : a = 0 ∧ b = 0 := by
 simp only [s152, s152_l1] at h
 by_cases ha : a = 0
 ·by_cases hb : b = 0
  ·exact ⟨ha, hb⟩
  ·simp [ha, hb] at h
 ·simp [ha] at h
theorem first3 (a b c : Int) (h : s152 [a, b, c] = 0) : a = 0 ∧ b = 0 ∧ c = 0 := by
 simp only [s152, s152_l1] at h
 by_cases ha : a = 0
 ·by_cases hb : b = 0
  ·by_cases hc : c = 0
   ·exact ⟨ha, hb, hc⟩
   ·simp [ha, hb, hc] at h
  ·simp [ha, hb] at h
 ·simp [ha] at h
theorem rng0 (n lo hi : Int) (h : s155 n lo hi = 0) : lo ≤ n ∧ n ≤ hi := by
 simp only [s155, s154] at h
 by_cases h1 : n < lo
 ·simp [h1] at h
 ·by_cases h2 : hi < n
  ·simp [h2] at h
  ·omega
theorem when0 (b : Bool) (e : Int) (he : e ≠ 0) (h : s154 b e = 0) : b = false := by
 cases b with
 | false => rfl
 | true => exact absurd h he
theorem period_ok (p : S45) (h : s102 p = 0) : 0 ≤ p.fFrom ∧ p.fFrom ≤ p.fTo ∧ p.fTo ≤ 99999 ∧ p.fTo - p.fFrom ≤ 400 ∧ 1 ≤ p.Days ∧ p.Days ≤ 127 := by
 unfold s102 at h
 by_cases h1 : s152 [s153 p.fFrom, s153 p.fTo] = 0
 ·rw [decide_eq_false (by simpa using h1)] at h;rw [cond_false] at h;obtain ⟨a1, a2⟩ := first2 _ _ h1;obtain ⟨b1, b2, b3⟩ := first3 _ _ _ h;have c1 := rng0 _ _ _ a1;have c2 := rng0 _ _ _ a2;have c3 := rng0 _ _ _ b3;have d1 := when0 _ _ (by decide) b1;have d2 := when0 _ _ (by decide) b2;simp only [decide_eq_false_iff_not] at d1 d2;rw [wrap_i64 (by unfold I64; omega)] at d2
  omega
 ·rw [decide_eq_true (by simpa using h1)] at h;exact absurd h h1
theorem turn_rng (a : Int) : 0 ≤ Int.tmod (IntKind.i64.wrap (Int.tmod a 7 + 7)) 7 ∧ Int.tmod (IntKind.i64.wrap (Int.tmod a 7 + 7)) 7 ≤ 6 ∧ IntKind.i64.wrap (7 - Int.tmod (IntKind.i64.wrap (Int.tmod a 7 + 7)) 7) = 7 - Int.tmod (IntKind.i64.wrap (Int.tmod a 7 + 7)) 7 := by
 have h1 := Int.tmod_lt_of_pos a (b := 7) (by decide);have h2 := Int.lt_tmod_of_pos a (b := 7) (by decide);rw [wrap_i64 (n := Int.tmod a 7 + 7) (by unfold I64; omega)];generalize Int.tmod a 7 = x at *;have h3 := Int.tmod_lt_of_pos (x + 7) (b := 7) (by decide);have h4 := Int.tmod_nonneg (a := x + 7) 7 (by omega);exact ⟨h4, by omega, wrap_i64 (by unfold I64; omega)⟩
theorem meet_ok {a0 a1 : S45} (h : ¬ s152 [s102 a0, s102 a1] ≠ 0) : (0 ≤ a0.fFrom ∧ a0.fFrom ≤ a0.fTo ∧ a0.fTo ≤ 99999 ∧ a0.fTo - a0.fFrom ≤ 400 ∧ 1 ≤ a0.Days ∧ a0.Days ≤ 127) ∧ (0 ≤ a1.fFrom ∧ a1.fFrom ≤ a1.fTo ∧ a1.fTo ≤ 99999 ∧ a1.fTo - a1.fFrom ≤ 400 ∧ 1 ≤ a1.Days ∧ a1.Days ≤ 127) := by
 obtain ⟨h1, h2⟩ := first2 _ _ (Decidable.not_not.1 h);exact ⟨period_ok _ h1, period_ok _ h2⟩
end Go.Sim
set_option maxRecDepth 10000
namespace Go.Sim
open Go.Proofs
def s69 (a0 : S45) : (List Int) × Int :=
 (bif decide ((s102 a0) ≠ 0) then ([], (s102 a0)) else (dayL a0.Days (a0.fTo + 1 - a0.fFrom).toNat a0.fFrom, 0))
theorem c69 {g : List (Nat × List Value)} (a0 : S45)    : Con (EG g) 54 [G.agg [G.int a0.fFrom, G.int a0.fTo, G.int a0.Days]] (G.tup [G.slX 1 (List.map cInt ((s69 a0)).1), G.int ((s69 a0)).2]) := by
 generalize hR : s69 a0 = R;unfold s69 at hR;refine con_of_aw Tryd.func54 rfl rfl fun w0 M0 => ?_;refine aw_seq ?_;refine aw_region [.p, .p, .p] ?_;refine st rfl rfl (eff_box rfl rfl) rfl ?_;refine st rfl rfl (eff_assigng rfl rfl) rfl ?_;refine st rfl rfl (eff_assigng rfl rfl) rfl ?_;refine st_nil ?_;refine aw_seq ?_;refine aw_seq ?_;refine aw_region [.p, .p, .p] ?_;refine st rfl rfl (eff_loadA rfl ty46 rfl rfl rfl) rfl ?_;refine st rfl rfl (eff_call rfl K102 rfl (c102 a0) (ag_cons rfl ag_nil)) rfl ?_;refine st rfl rfl (eff_assigng rfl rfl) rfl ?_;refine st_nil ?_;refine aw_seq ?_;refine aw_region [.p, .p] ?_;refine st rfl rfl (eff_moveg rfl rfl) rfl ?_;refine st rfl rfl (eff_neq rfl rfl rfl) rfl ?_;refine st_nil ?_;refine aw_cond _ rfl (fun h1 => ?_) (fun h1 => ?_)
 ·replace h1 : (decide ((s102 a0) ≠ 0)) = true := h1;replace hR := condT hR h1;(try simp only [Bool.or_eq_true, Bool.and_eq_true, Bool.or_eq_false_iff, Bool.and_eq_false_iff, Bool.not_eq_true', Bool.not_eq_false', decide_eq_true_eq, decide_eq_false_iff_not] at h1);refine aw_seq ?_;refine aw_region [.p, .p, .p] ?_;refine st rfl rfl (eff_moveg rfl rfl) rfl ?_;refine st rfl rfl (eff_assigng rfl rfl) rfl ?_;refine st rfl rfl (eff_assigng rfl rfl) rfl ?_;refine st_nil ?_;refine aw_ret ?_;subst hR;exact resN rfl ⟨rv_nilG rfl (nil_slX _), rv_g rfl, trivial⟩ (by simp)
 ·replace h1 : (decide ((s102 a0) ≠ 0)) = false := h1;replace hR := condF hR h1;(try simp only [Bool.or_eq_true, Bool.and_eq_true, Bool.or_eq_false_iff, Bool.and_eq_false_iff, Bool.not_eq_true', Bool.not_eq_false', decide_eq_true_eq, decide_eq_false_iff_not] at h1);have hp := period_ok a0 (by simpa using h1);refine aw_skip ?_;refine aw_seq ?_;refine aw_region [.p, .p, .p, .p, .p] ?_;refine st rfl rfl (eff_loadA rfl ty46 rfl rfl rfl) rfl ?_;refine st rfl rfl (eff_call rfl K136 rfl (c136 a0.fFrom a0.fTo a0.Days) (ag_cons rfl ag_nil)) rfl ?_;refine st rfl rfl (eff_call rfl K135 rfl (c135X a0.fFrom a0.fTo a0.Days hp.1 (by omega)) (ag_cons rfl (ag_cons rfl ag_nil))) rfl ?_;refine st rfl rfl (eff_assigng rfl rfl) rfl ?_;refine st rfl rfl (eff_assigng rfl rfl) rfl ?_;refine st_nil ?_;refine aw_ret ?_;subst hR;exact resN rfl ⟨rv_g rfl, rv_g rfl, trivial⟩ (by simp)
def s2012 (a0 : S45) (a1 : Int) : S45 × Int :=
 (bif decide ((s152 [(s102 a0), (s155 a1 (-99999) 99999)]) ≠ 0) then ((S45.mk 0 0 0), (s152 [(s102 a0), (s155 a1 (-99999) 99999)])) else (bif (decide (IntKind.i64.wrap (a0.fFrom + a1) < 0)) || (decide (99999 < IntKind.i64.wrap (a0.fTo + a1))) then ((S45.mk 0 0 0), 30) else ((S45.mk (IntKind.i64.wrap (a0.fFrom + a1)) (IntKind.i64.wrap (a0.fTo + a1)) (andI (orI (shlI a0.Days (Int.tmod (IntKind.i64.wrap ((Int.tmod a1 7) + 7)) 7)) (shrI a0.Days (IntKind.i64.wrap (7 - (Int.tmod (IntKind.i64.wrap ((Int.tmod a1 7) + 7)) 7))))) 127)), 0)))
theorem c2012 {g : List (Nat × List Value)} (a0 : S45) (a1 : Int)    : Con (EG g) 12 [G.agg [G.int a0.fFrom, G.int a0.fTo, G.int a0.Days], G.int a1] (G.tup [G.agg [G.int ((s2012 a0 a1).1.fFrom), G.int ((s2012 a0 a1).1.fTo), G.int ((s2012 a0 a1).1.Days)], G.int ((s2012 a0 a1).2)]) := by
 generalize hR : s2012 a0 a1 = R;unfold s2012 at hR;refine con_of_aw Tryd.func12 rfl rfl fun w0 M0 => ?_;refine aw_seq ?_;refine aw_region [.p, .w, .p] ?_;refine st rfl rfl (eff_box rfl rfl) rfl ?_;refine st_w rfl rfl (eff_alloc 4 rfl z46 rfl rfl) rfl ?_;refine st rfl rfl (eff_assigng rfl rfl) rfl ?_;refine st_nil ?_;refine aw_seq ?_;refine aw_seq ?_;refine aw_region [.p, .p, .p, .p, .p, .p, .p] ?_;refine st rfl rfl (eff_loadA rfl ty46 rfl rfl rfl) rfl ?_;refine st rfl rfl (eff_call rfl K102 rfl (c102 a0) (ag_cons rfl ag_nil)) rfl ?_;refine st rfl rfl (eff_moveg rfl rfl) rfl ?_;refine st rfl rfl (eff_call rfl K155 rfl (c155 a1 (-99999) 99999) (ag_cons rfl (ag_cons rfl (ag_cons rfl ag_nil)))) rfl ?_;refine st rfl rfl (eff_buildSlice rfl Tryd.underlying101 ty37 z37 rfl (ps_cons rfl (ps_cons rfl ps_nil)) rfl (by simp []) (by decide)) rfl ?_;refine st rfl rfl (eff_call rfl K152 rfl (c152 [(s102 a0), (s155 a1 (-99999) 99999)]) (ag_cons rfl ag_nil)) rfl ?_;refine st rfl rfl (eff_assigng rfl rfl) rfl ?_;refine st_nil ?_;refine aw_seq ?_;refine aw_region [.p, .p] ?_;refine st rfl rfl (eff_moveg rfl rfl) rfl ?_;refine st rfl rfl (eff_neq rfl rfl rfl) rfl ?_;refine st_nil ?_;refine aw_cond _ rfl (fun h1 => ?_) (fun h1 => ?_)
 ·replace h1 : (decide ((s152 [(s102 a0), (s155 a1 (-99999) 99999)]) ≠ 0)) = true := h1;replace hR := condT hR h1;(try simp only [Bool.or_eq_true, Bool.and_eq_true, Bool.or_eq_false_iff, Bool.and_eq_false_iff, Bool.not_eq_true', Bool.not_eq_false', decide_eq_true_eq, decide_eq_false_iff_not] at h1);refine aw_seq ?_;refine aw_region [.p, .p, .w, .p] ?_;refine st rfl rfl (eff_build rfl z46 rfl pl46 pb_nil rfl) rfl ?_;refine st rfl rfl (eff_moveg rfl rfl) rfl ?_;refine st_wn rfl rfl (eff_store (tv := .g (G.agg [G.int 0, G.int 0, G.int 0])) rfl ty46 rfl rfl rfl rfl rfl) ?_;refine st rfl rfl (eff_assigng rfl rfl) rfl ?_;refine st_nil ?_;refine aw_ret ?_;subst hR;exact resN rfl ⟨rv_cell rfl rfl ty46 rfl rfl, rv_g rfl, trivial⟩ (by simp)
 ·replace h1 : (decide ((s152 [(s102 a0), (s155 a1 (-99999) 99999)]) ≠ 0)) = false := h1;replace hR := condF hR h1;(try simp only [Bool.or_eq_true, Bool.and_eq_true, Bool.or_eq_false_iff, Bool.and_eq_false_iff, Bool.not_eq_true', Bool.not_eq_false', decide_eq_true_eq, decide_eq_false_iff_not] at h1);refine aw_skip ?_;refine aw_seq ?_;refine aw_seq ?_;refine aw_region [.p, .p, .p, .p, .p, .p, .p, .p, .p, .p, .p, .p] ?_;refine st rfl rfl (eff_fieldAddr rfl fl46_0 rfl) rfl ?_;refine st rfl rfl (eff_load rfl ty3 rfl) rfl ?_;refine st rfl rfl (eff_moveg rfl rfl) rfl ?_;refine st rfl rfl (eff_addw rfl rfl rfl) rfl ?_;refine st rfl rfl (eff_lss rfl rfl rfl) rfl ?_;refine st rfl rfl (eff_moveg rfl rfl) rfl ?_;refine st_g rfl rfl rfl (gb_bool _ _) (fun h => eff_fieldAddr rfl fl46_1 rfl) rfl ?_;refine st_g rfl rfl rfl (gb_bool _ _) (fun h => eff_load rfl ty3 (gd h rfl)) rfl ?_;refine st_g rfl rfl rfl (gb_bool _ _) (fun h => eff_moveg rfl rfl) rfl ?_;refine st_g rfl rfl rfl (gb_bool _ _) (fun h => eff_addw rfl (gd h rfl) (gd h rfl)) rfl ?_;refine st_g rfl rfl rfl (gb_bool _ _) (fun h => eff_gtr rfl (gd h rfl) rfl) rfl ?_;refine st rfl rfl (eff_or rfl rfl rfl rfl) rfl ?_;refine st_nil ?_;refine aw_cond _ rfl (fun h2 => ?_) (fun h2 => ?_)
  ·replace h2 : ((decide (IntKind.i64.wrap (a0.fFrom + a1) < 0)) || (decide (99999 < IntKind.i64.wrap (a0.fTo + a1)))) = true := h2;replace hR := condT hR h2;(try simp only [Bool.or_eq_true, Bool.and_eq_true, Bool.or_eq_false_iff, Bool.and_eq_false_iff, Bool.not_eq_true', Bool.not_eq_false', decide_eq_true_eq, decide_eq_false_iff_not] at h2);refine aw_seq ?_;refine aw_region [.p, .w, .p] ?_;refine st rfl rfl (eff_build rfl z46 rfl pl46 pb_nil rfl) rfl ?_;refine st_wn rfl rfl (eff_store (tv := .g (G.agg [G.int 0, G.int 0, G.int 0])) rfl ty46 rfl rfl rfl rfl rfl) ?_;refine st rfl rfl (eff_assigng rfl rfl) rfl ?_;refine st_nil ?_;refine aw_ret ?_;subst hR;exact resN rfl ⟨rv_cell rfl rfl ty46 rfl rfl, rv_g rfl, trivial⟩ (by simp)
  ·replace h2 : ((decide (IntKind.i64.wrap (a0.fFrom + a1) < 0)) || (decide (99999 < IntKind.i64.wrap (a0.fTo + a1)))) = false := h2;replace hR := condF hR h2;(try simp only [Bool.or_eq_true, Bool.and_eq_true, Bool.or_eq_false_iff, Bool.and_eq_false_iff, Bool.not_eq_true', Bool.not_eq_false', decide_eq_true_eq, decide_eq_false_iff_not] at h2);refine aw_skip ?_;refine aw_seq ?_;obtain ⟨ht0, ht1, ht2⟩ := turn_rng a1;refine aw_region [.p, .p, .p, .p, .p] ?_;refine st rfl rfl (eff_moveg rfl rfl) rfl ?_;refine st rfl rfl (eff_remt rfl rfl rfl (by decide)) rfl ?_;refine st rfl rfl (eff_addw rfl rfl rfl) rfl ?_;refine st rfl rfl (eff_remt rfl rfl rfl (by decide)) rfl ?_;refine st rfl rfl (eff_assigng rfl rfl) rfl ?_;refine st_nil ?_;refine aw_seq ?_;refine aw_draw [.p, .p, .p, .p, .p, .p, .p, .p, .p, .p, .p, .p] (by kernel_rfl) ?_;refine st rfl rfl (eff_fieldAddr rfl fl46_2 rfl) rfl ?_;refine st rfl rfl (eff_load rfl ty3 rfl) rfl ?_;refine st rfl rfl (eff_moveg rfl rfl) rfl ?_;refine st rfl rfl (eff_shl rfl rfl rfl (by omega)) rfl ?_;refine st rfl rfl (eff_fieldAddr rfl fl46_2 rfl) rfl ?_;refine st rfl rfl (eff_load rfl ty3 rfl) rfl ?_;refine st rfl rfl (eff_moveg rfl rfl) rfl ?_;refine st rfl rfl (eff_subw rfl rfl rfl) rfl ?_;refine st rfl rfl (eff_shr rfl rfl rfl (by omega)) rfl ?_;refine st rfl rfl (eff_or2 rfl rfl rfl) rfl ?_;refine st rfl rfl (eff_and2 rfl rfl rfl) rfl ?_;refine st rfl rfl (eff_assigng rfl rfl) rfl ?_;refine st_nil ?_;refine aw_seq ?_;refine aw_region [.p, .p, .p, .p, .p, .p, .p, .p, .p, .p, .w, .p] ?_;refine st rfl rfl (eff_fieldAddr rfl fl46_0 rfl) rfl ?_;refine st rfl rfl (eff_load rfl ty3 rfl) rfl ?_;refine st rfl rfl (eff_moveg rfl rfl) rfl ?_;refine st rfl rfl (eff_addw rfl rfl rfl) rfl ?_;refine st rfl rfl (eff_fieldAddr rfl fl46_1 rfl) rfl ?_;refine st rfl rfl (eff_load rfl ty3 rfl) rfl ?_;refine st rfl rfl (eff_moveg rfl rfl) rfl ?_;refine st rfl rfl (eff_addw rfl rfl rfl) rfl ?_;refine st rfl rfl (eff_moveg rfl rfl) rfl ?_;refine st rfl rfl (eff_build rfl z46 rfl pl46 (pb_cons rfl (pb_cons rfl (pb_cons rfl pb_nil))) rfl) rfl ?_;refine st_wn rfl rfl (eff_store (tv := .g (G.agg [G.int (IntKind.i64.wrap (a0.fFrom + a1)), G.int (IntKind.i64.wrap (a0.fTo + a1)), G.int (andI (orI (shlI a0.Days (Int.tmod (IntKind.i64.wrap ((Int.tmod a1 7) + 7)) 7)) (shrI a0.Days (IntKind.i64.wrap (7 - (Int.tmod (IntKind.i64.wrap ((Int.tmod a1 7) + 7)) 7))))) 127)])) rfl ty46 rfl rfl rfl rfl rfl) ?_;refine st rfl rfl (eff_assigng rfl rfl) rfl ?_;refine st_nil ?_;refine aw_ret ?_;subst hR;exact resN rfl ⟨rv_cell rfl rfl ty46 rfl rfl, rv_g rfl, trivial⟩ (by simp)
end Go.Sim
set_option maxRecDepth 10000
namespace Go.Sim
open Go.Proofs
def s2011 (a0 : S45) (a1 : S45) : (List Int) × Int :=
 (bif decide ((s152 [(s102 a0), (s102 a1)]) ≠ 0) then ([], (s152 [(s102 a0), (s102 a1)])) else ((dayL a0.Days (a0.fTo + 1 - a0.fFrom).toNat a0.fFrom).filter (hasB a1.fFrom a1.fTo a1.Days), 0))
theorem c2011 {g : List (Nat × List Value)} (a0 : S45) (a1 : S45)    : Con (EG g) 11 [G.agg [G.int a0.fFrom, G.int a0.fTo, G.int a0.Days], G.agg [G.int a1.fFrom, G.int a1.fTo, G.int a1.Days]] (G.tup [G.slX 1 (List.map cInt ((s2011 a0 a1)).1), G.int ((s2011 a0 a1)).2]) := by
 generalize hR : s2011 a0 a1 = R;unfold s2011 at hR;refine con_of_aw Tryd.func11 rfl rfl fun w0 M0 => ?_;refine aw_seq ?_;refine aw_region [.p, .p, .p, .p] ?_;refine st rfl rfl (eff_box rfl rfl) rfl ?_;refine st rfl rfl (eff_box rfl rfl) rfl ?_;refine st rfl rfl (eff_assigng rfl rfl) rfl ?_;refine st rfl rfl (eff_assigng rfl rfl) rfl ?_;refine st_nil ?_;refine aw_seq ?_;refine aw_seq ?_;refine aw_draw [.p, .p, .p, .p, .p, .p, .p] (by kernel_rfl) ?_;refine st rfl rfl (eff_loadA rfl ty46 rfl rfl rfl) rfl ?_;refine st rfl rfl (eff_call rfl K102 rfl (c102 a0) (ag_cons rfl ag_nil)) rfl ?_;refine st rfl rfl (eff_loadA rfl ty46 rfl rfl rfl) rfl ?_;refine st rfl rfl (eff_call rfl K102 rfl (c102 a1) (ag_cons rfl ag_nil)) rfl ?_;refine st rfl rfl (eff_buildSlice rfl Tryd.underlying101 ty37 z37 rfl (ps_cons rfl (ps_cons rfl ps_nil)) rfl (by simp []) (by decide)) rfl ?_;refine st rfl rfl (eff_call rfl K152 rfl (c152 [(s102 a0), (s102 a1)]) (ag_cons rfl ag_nil)) rfl ?_;refine st rfl rfl (eff_assigng rfl rfl) rfl ?_;refine st_nil ?_;refine aw_seq ?_;refine aw_region [.p, .p] ?_;refine st rfl rfl (eff_moveg rfl rfl) rfl ?_;refine st rfl rfl (eff_neq rfl rfl rfl) rfl ?_;refine st_nil ?_;refine aw_cond _ rfl (fun h1 => ?_) (fun h1 => ?_)
 ·replace h1 : (decide ((s152 [(s102 a0), (s102 a1)]) ≠ 0)) = true := h1;replace hR := condT hR h1;(try simp only [Bool.or_eq_true, Bool.and_eq_true, Bool.or_eq_false_iff, Bool.and_eq_false_iff, Bool.not_eq_true', Bool.not_eq_false', decide_eq_true_eq, decide_eq_false_iff_not] at h1);refine aw_seq ?_;refine aw_region [.p, .p, .p] ?_;refine st rfl rfl (eff_moveg rfl rfl) rfl ?_;refine st rfl rfl (eff_assigng rfl rfl) rfl ?_;refine st rfl rfl (eff_assigng rfl rfl) rfl ?_;refine st_nil ?_;refine aw_ret ?_;subst hR;exact resN rfl ⟨rv_nilG rfl (nil_slX _), rv_g rfl, trivial⟩ (by simp)
 ·replace h1 : (decide ((s152 [(s102 a0), (s102 a1)]) ≠ 0)) = false := h1;replace hR := condF hR h1;(try simp only [Bool.or_eq_true, Bool.and_eq_true, Bool.or_eq_false_iff, Bool.and_eq_false_iff, Bool.not_eq_true', Bool.not_eq_false', decide_eq_true_eq, decide_eq_false_iff_not] at h1);obtain ⟨hp, hp2⟩ := meet_ok h1;refine aw_skip ?_;refine aw_seq ?_;refine aw_region [.p, .p, .p, .p, .p, .p] ?_;refine st rfl rfl (eff_loadA rfl ty46 rfl rfl rfl) rfl ?_;refine st rfl rfl (eff_call rfl K136 rfl (c136 a0.fFrom a0.fTo a0.Days) (ag_cons rfl ag_nil)) rfl ?_;refine st rfl rfl (eff_makeF rfl rfl rfl) rfl ?_;refine st rfl rfl (eff_call rfl K135 rfl (c135M a0.fFrom a0.fTo a0.Days a1.fFrom a1.fTo a1.Days hp.1 (by omega) hp2.1 (by omega)) (ag_cons rfl (ag_cons rfl ag_nil))) rfl ?_;refine st rfl rfl (eff_assigng rfl rfl) rfl ?_;refine st rfl rfl (eff_assigng rfl rfl) rfl ?_;refine st_nil ?_;refine aw_ret ?_;subst hR;exact resN rfl ⟨rv_g rfl, rv_g rfl, trivial⟩ (by simp)
theorem c69' {g : List (Nat × List Value)} (a0 : S45) : Con (EG g) 54 [G.agg [G.int a0.fFrom, G.int a0.fTo, G.int a0.Days]] (G.tup [G.sl 1 (List.map cInt ((s69 a0)).1), G.int ((s69 a0)).2]) := by
 intro w M vs hM hgl hv;refine (c69 a0 w M vs hM hgl hv).mono ?_;rintro e w' ⟨v, h1, h2, us, h3, h4⟩;refine ⟨v, h1, h2, us, h3, ?_⟩
 match us, h4 with
 | [u1, u2], ⟨k1, k2, k3⟩ => exact ⟨slX_sl k1, k2, k3⟩
theorem c2011' {g : List (Nat × List Value)} (a0 a1 : S45) : Con (EG g) 11 [G.agg [G.int a0.fFrom, G.int a0.fTo, G.int a0.Days], G.agg [G.int a1.fFrom, G.int a1.fTo, G.int a1.Days]] (G.tup [G.sl 1 (List.map cInt ((s2011 a0 a1)).1), G.int ((s2011 a0 a1)).2]) := by
 intro w M vs hM hgl hv;refine (c2011 a0 a1 w M vs hM hgl hv).mono ?_;rintro e w' ⟨v, h1, h2, us, h3, h4⟩;refine ⟨v, h1, h2, us, h3, ?_⟩
 match us, h4 with
 | [u1, u2], ⟨k1, k2, k3⟩ => exact ⟨slX_sl k1, k2, k3⟩
theorem s2047_l1_zero : ∀ (l : List Int) (k : Nat), s2047_l1 l k = 0 ↔ ∀ x ∈ l, x = 0
 | [], k => by simp [s2047_l1]
 | y :: t, k => by
  rw [s2047_l1]
  by_cases h : y = 0
  ·rw [decide_eq_false (by simpa using h), cond_false, s2047_l1_zero t]; simp [h]
  ·rw [decide_eq_true h, cond_true]; simp [h]
theorem s2047_zero (l : List Int) : s2047 l = 0 ↔ ∀ x ∈ l, x = 0 := s2047_l1_zero l 0
theorem req_ok {a0 : S115} (h : ¬ s2020 a0 ≠ 0) : s102 a0.Period = 0 := (s2047_zero _).1 (Decidable.not_not.1 h) _ (by simp)
theorem s69_ok {p : S45} (h : s102 p = 0) : s69 p = (dayL p.Days (p.fTo + 1 - p.fFrom).toNat p.fFrom, 0) := by unfold s69; rw [h]; rfl
theorem days_len {p : S45} (h : s102 p = 0) : ((s69 p).1).length ≤ 401 := by
 rw [s69_ok h];obtain ⟨q1, q2, q3, q4, q5, q6⟩ := period_ok p h;have := dayL_len p.Days (p.fTo + 1 - p.fFrom).toNat p.fFrom;show (dayL p.Days (p.fTo + 1 - p.fFrom).toNat p.fFrom).length ≤ 401
 omega
end Go.Sim
set_option maxRecDepth 10000
namespace Go.Sim
open Go.Proofs
def s2021_l1 (a0 : S115) : List Int → Nat → (List S1079) → List S1079
 | [], k3, x1 => x1
 | y4 :: t5, k3, x1 => s2021_l1 a0 t5 (k3 + 1) (x1 ++ [(S1079.mk (IntKind.i64.wrap ((IntKind.i64.wrap (1440 * y4)) + a0.Minute)) a0.Kind a0.Terminal a0.Seats a0.Size a0.Noise a0.Name)])
def s2021 (a0 : S115) : List S1079 :=
 s2021_l1 a0 ((s69 a0.Period).1) 0 []
set_option maxHeartbeats 4000000 in
theorem c2021 {g : List (Nat × List Value)} (a0 : S115)  (hp : s102 a0.Period = 0)  : Con (EG g) 21 [G.agg [G.str a0.Name, G.str a0.Carrier, G.str a0.Kind, G.str a0.Terminal, G.str a0.Partner, G.str a0.Link, G.int a0.Period.fFrom, G.int a0.Period.fTo, G.int a0.Period.Days, G.int a0.Minute, G.int a0.Seats, G.int a0.Size, G.int a0.Noise]] (G.sl 7 (List.map S1079.c (s2021 a0))) := by
 generalize hR : s2021 a0 = R;unfold s2021 at hR;refine con_of_aw Tryd.func21 rfl rfl fun w0 M0 => ?_;have hl := days_len hp;refine aw_seq ?_;refine aw_region [.p, .w] ?_;refine st rfl rfl (eff_box rfl rfl) rfl ?_;refine st_w rfl rfl (eff_nilL 2 67 7 rfl rfl rfl) rfl ?_;refine st_nil ?_;refine aw_seq ?_;refine aw_region [.p, .p, .p, .p, .p, .p, .p, .p] ?_;refine st rfl rfl (eff_fieldAddr rfl fl116_6 rfl) rfl ?_;refine st rfl rfl (eff_loadA rfl ty46 rfl rfl rfl) rfl ?_;refine st rfl rfl (eff_call rfl K69 rfl (c69' a0.Period) (ag_cons rfl ag_nil)) rfl ?_;refine st rfl rfl (eff_moveg rfl rfl) rfl ?_;refine st rfl rfl (eff_extract rfl rfl rfl) rfl ?_;refine st rfl rfl (eff_extract rfl rfl rfl) rfl ?_;refine st rfl rfl (eff_assigng rfl rfl) rfl ?_;refine st rfl rfl (eff_assigng rfl rfl) rfl ?_;refine st_nil ?_;refine aw_seq ?_;refine aw_region [.w] ?_;refine st_w rfl rfl (eff_nilL 5 67 7 rfl rfl rfl) rfl ?_;refine st_nil ?_;refine aw_seq ?_;refine aw_seq ?_;refine aw_region [.p, .p, .p] ?_;refine st rfl rfl (eff_moveg rfl rfl) rfl ?_;refine st rfl rfl (eff_lenM (f := cInt) (l := (s69 a0.Period).1) rfl Tryd.underlying52 rfl) rfl ?_;refine st rfl rfl (eff_moveg rfl rfl) rfl ?_;refine st_nil ?_;refine aw_block ?_;refine aw_loop_g (γ := Nat × (List Int) × (List S1079)) (fun g => ([(1, .g (G.ref [G.str a0.Name, G.str a0.Carrier, G.str a0.Kind, G.str a0.Terminal, G.str a0.Partner, G.str a0.Link, G.int a0.Period.fFrom, G.int a0.Period.fTo, G.int a0.Period.Days, G.int a0.Minute, G.int a0.Seats, G.int a0.Size, G.int a0.Noise])), (5, .osl 5 7 0 (List.length g.2.2)), (14, .g (G.sl 1 (List.map cInt ((s69 a0.Period).1)))), (15, .g (G.int (List.length ((s69 a0.Period).1) : Int))), (16, .g (G.int ((g.1 : Nat) : Int)))], [(5, .arr 67 7 (List.map S1079.c g.2.2))])) (fun g => g.2.2.length ≤ g.1 ∧ g.1 ≤ ((s69 a0.Period).1).length ∧ g.2.2.length ≤ g.1 ∧ ((s69 a0.Period).1).drop g.1 = g.2.1 ∧ s2021_l1 a0 g.2.1 g.1 g.2.2 = R) (fun g => List.length g.2.1) ⟨rfl, (0, ((s69 a0.Period).1), []), ⟨rfl, rfl, rfl, rfl, rfl, trivial⟩, ⟨rfl, trivial⟩, rfl, ⟨(by first | (simp; done) | (simp; omega)), (by first | (simp; done) | (simp; omega)), (by first | (simp; done) | (simp; omega)), rfl, hR⟩, trivial⟩ ?_
 ·rintro ⟨k3, t5, x1⟩ ⟨iv1_0, iv1_1, iv1_2, hd, hR⟩;replace hd : ((s69 a0.Period).1).drop k3 = t5 := hd;replace hR : s2021_l1 a0 t5 k3 x1 = R := hR;replace iv1_0 : x1.length ≤ k3 := iv1_0;replace iv1_1 : k3 ≤ ((s69 a0.Period).1).length := iv1_1;replace iv1_2 : x1.length ≤ k3 := iv1_2;refine aw_seq ?_;refine aw_region [.p] ?_;refine st rfl rfl (eff_lss rfl rfl rfl) rfl ?_;refine st_nil ?_;refine len_sl (f := cInt) (l := (s69 a0.Period).1) 14 rfl fun hlz1 => ?_;refine aw_seq ?_;refine aw_cond _ rfl (fun h1 => ?_) (fun h1 => ?_)
  ·replace h1 : (decide (((k3 : Nat) : Int) < (List.length ((s69 a0.Period).1) : Int))) = true := h1;obtain ⟨y4, t5, rfl, hx1, hd⟩ := drop_cons hd (decT h1);replace h1 := decT h1;rw [s2021_l1] at hR;(try dsimp only at hR);refine aw_skip ?_;refine aw_seq ?_;refine aw_block ?_;refine aw_seq ?_;refine aw_region [.p, .p, .p] ?_;refine st rfl rfl (eff_ix (f := cInt) (l := (s69 a0.Period).1) (a := y4) rfl Tryd.underlying52 ty3 rfl rfl (Int.natCast_nonneg _) hx1) rfl ?_;refine st rfl rfl (eff_load rfl ty3 rfl) rfl ?_;refine st rfl rfl (eff_assigng rfl rfl) rfl ?_;refine st_nil ?_;refine aw_region [.p, .p, .p, .p, .p, .p, .p, .p, .p, .p, .p, .p, .p, .p, .p, .p, .p, .p, .p, .p, .k, .p] ?_;refine st rfl rfl (eff_moveO rfl rfl) rfl ?_;refine st rfl rfl (eff_moveg rfl rfl) rfl ?_;refine st rfl rfl (eff_mulw rfl rfl rfl) rfl ?_;refine st rfl rfl (eff_fieldAddr rfl fl116_7 rfl) rfl ?_;refine st rfl rfl (eff_load rfl ty3 rfl) rfl ?_;refine st rfl rfl (eff_addw rfl rfl rfl) rfl ?_;refine st rfl rfl (eff_fieldAddr rfl fl116_2 rfl) rfl ?_;refine st rfl rfl (eff_load rfl ty9 rfl) rfl ?_;refine st rfl rfl (eff_fieldAddr rfl fl116_3 rfl) rfl ?_;refine st rfl rfl (eff_load rfl ty9 rfl) rfl ?_;refine st rfl rfl (eff_fieldAddr rfl fl116_8 rfl) rfl ?_;refine st rfl rfl (eff_load rfl ty3 rfl) rfl ?_;refine st rfl rfl (eff_fieldAddr rfl fl116_9 rfl) rfl ?_;refine st rfl rfl (eff_load rfl ty3 rfl) rfl ?_;refine st rfl rfl (eff_fieldAddr rfl fl116_10 rfl) rfl ?_;refine st rfl rfl (eff_load rfl ty3 rfl) rfl ?_;refine st rfl rfl (eff_fieldAddr rfl fl116_0 rfl) rfl ?_;refine st rfl rfl (eff_load rfl ty9 rfl) rfl ?_;refine st rfl rfl (eff_build rfl z1080 rfl pl1080 (pb_cons rfl (pb_cons rfl (pb_cons rfl (pb_cons rfl (pb_cons rfl (pb_cons rfl (pb_cons rfl pb_nil))))))) rfl) rfl ?_;refine st rfl rfl (eff_buildSlice rfl Tryd.underlying39 ty1080 z1080 rfl (ps_cons rfl ps_nil) rfl (by exact lens rfl) (by decide)) rfl ?_;refine st_k rfl rfl (eff_appL (f := S1079.c) (out := x1) (new := [(S1079.mk (IntKind.i64.wrap ((IntKind.i64.wrap (1440 * y4)) + a0.Minute)) a0.Kind a0.Terminal a0.Seats a0.Size a0.Noise a0.Name)]) rfl app1025 rfl rfl (src_eq rfl (src_sl (by decide) (by simp [S1079.c]))) (refsN rfl) (by simp; omega)) rfl ?_;refine st rfl rfl (eff_assignO rfl rfl) rfl ?_;refine st_nil ?_;refine aw_region [.p, .p] ?_;refine st rfl rfl (eff_add rfl rfl rfl (by unfold I64; omega)) rfl ?_;refine st rfl rfl (eff_moveg rfl rfl) rfl ?_;refine st_nil ?_;exact ⟨rfl, (k3 + 1, t5, x1 ++ [(S1079.mk (IntKind.i64.wrap ((IntKind.i64.wrap (1440 * y4)) + a0.Minute)) a0.Kind a0.Terminal a0.Seats a0.Size a0.Noise a0.Name)]), ⟨rfl, rfl, rfl, rfl, rfl, trivial⟩, ⟨rfl, trivial⟩, rfl, ⟨(by first | omega | (dsimp only; omega) | (simp at *; omega)), (by first | omega | (dsimp only; omega) | (simp at *; omega)), (by first | omega | (dsimp only; omega) | (simp at *; omega)), hd, hR⟩, by simp⟩
  ·replace h1 : (decide (((k3 : Nat) : Int) < (List.length ((s69 a0.Period).1) : Int))) = false := h1;obtain rfl := drop_nil hd (decF h1);rw [s2021_l1] at hR;refine aw_exit ?_;refine aw_seq ?_;refine aw_region [.p, .p] ?_;refine st rfl rfl (eff_moveO rfl rfl) rfl ?_;refine st rfl rfl (eff_assignO rfl rfl) rfl ?_;refine st_nil ?_;refine aw_ret ?_;subst hR;exact res_c rfl (rv_viewL rfl rfl)
def s2007 (a0 : S115) : (List S1079) × Int :=
 (bif decide ((s2020 a0) ≠ 0) then ([], (s2020 a0)) else ((s2021 a0), 0))
theorem c2007 {g : List (Nat × List Value)} (a0 : S115)    : Con (EG g) 7 [G.agg [G.str a0.Name, G.str a0.Carrier, G.str a0.Kind, G.str a0.Terminal, G.str a0.Partner, G.str a0.Link, G.int a0.Period.fFrom, G.int a0.Period.fTo, G.int a0.Period.Days, G.int a0.Minute, G.int a0.Seats, G.int a0.Size, G.int a0.Noise]] (G.tup [G.sl 7 (List.map S1079.c ((s2007 a0).1)), G.int ((s2007 a0).2)]) := by
 generalize hR : s2007 a0 = R;unfold s2007 at hR;refine con_of_aw Tryd.func7 rfl rfl fun w0 M0 => ?_;refine aw_seq ?_;refine aw_region [.p, .p, .p] ?_;refine st rfl rfl (eff_box rfl rfl) rfl ?_;refine st rfl rfl (eff_assigng rfl rfl) rfl ?_;refine st rfl rfl (eff_assigng rfl rfl) rfl ?_;refine st_nil ?_;refine aw_seq ?_;refine aw_seq ?_;refine aw_region [.p, .p, .p] ?_;refine st rfl rfl (eff_loadA rfl ty116 rfl rfl rfl) rfl ?_;refine st rfl rfl (eff_call rfl K2020 rfl (c2020 a0) (ag_cons rfl ag_nil)) rfl ?_;refine st rfl rfl (eff_assigng rfl rfl) rfl ?_;refine st_nil ?_;refine aw_seq ?_;refine aw_region [.p, .p] ?_;refine st rfl rfl (eff_moveg rfl rfl) rfl ?_;refine st rfl rfl (eff_neq rfl rfl rfl) rfl ?_;refine st_nil ?_;refine aw_cond _ rfl (fun h1 => ?_) (fun h1 => ?_)
 ·replace h1 : (decide ((s2020 a0) ≠ 0)) = true := h1;replace hR := condT hR h1;(try simp only [Bool.or_eq_true, Bool.and_eq_true, Bool.or_eq_false_iff, Bool.and_eq_false_iff, Bool.not_eq_true', Bool.not_eq_false', decide_eq_true_eq, decide_eq_false_iff_not] at h1);refine aw_seq ?_;refine aw_region [.p, .p, .p] ?_;refine st rfl rfl (eff_moveg rfl rfl) rfl ?_;refine st rfl rfl (eff_assigng rfl rfl) rfl ?_;refine st rfl rfl (eff_assigng rfl rfl) rfl ?_;refine st_nil ?_;refine aw_ret ?_;subst hR;exact resN rfl ⟨rv_nilG rfl (nil_sl _), rv_g rfl, trivial⟩ (by simp)
 ·replace h1 : (decide ((s2020 a0) ≠ 0)) = false := h1;replace hR := condF hR h1;(try simp only [Bool.or_eq_true, Bool.and_eq_true, Bool.or_eq_false_iff, Bool.and_eq_false_iff, Bool.not_eq_true', Bool.not_eq_false', decide_eq_true_eq, decide_eq_false_iff_not] at h1);have hp := req_ok h1;refine aw_skip ?_;refine aw_seq ?_;refine aw_region [.p, .p, .p, .p] ?_;refine st rfl rfl (eff_loadA rfl ty116 rfl rfl rfl) rfl ?_;refine st rfl rfl (eff_call rfl K2021 rfl (c2021 a0 (by first | assumption | omega | (simp [copyL_len]; done) | (simp [copyL_len]; omega))) (ag_cons rfl ag_nil)) rfl ?_;refine st rfl rfl (eff_assigng rfl rfl) rfl ?_;refine st rfl rfl (eff_assigng rfl rfl) rfl ?_;refine st_nil ?_;refine aw_ret ?_;subst hR;exact resN rfl ⟨rv_g rfl, rv_g rfl, trivial⟩ (by simp)
end Go.Sim
set_option maxRecDepth 10000
namespace Go.Sim
open Go.Proofs
noncomputable def s2003_j1 (a2 : Int × Int) (r2 : S1143 × Int) (x4 : Int) : Option Bool :=
 some ((eqAnd [decide (r2.1.Count = x4), decide (r2.1.Points = IntKind.i64.wrap (x4 * (Int.tmod (IntKind.i64.wrap a2.2) 100)))]) && s2006)
noncomputable def s2003_j2 (a0 : S45) (a1 : S1089) (a2 : Int × Int) (r1 : S45 × Int) (r2 : S1143 × Int) (x3 : Int) : Option Bool :=
 (bif (decide (a1.Night.fTo < a1.Night.fFrom)) && (decide (Int.tmod (IntKind.i64.wrap a2.1) 1440 < a1.Night.fTo)) then (bif decide (IntKind.i64.wrap (((s2012 a0 (-1)).2) + ((s2011 ((s2012 a0 (-1)).1) r1.1).2)) ≠ 0) then some false else s2003_j1 a2 r2 (List.length ((s2011 ((s2012 a0 (-1)).1) r1.1).1) : Int)) else s2003_j1 a2 r2 x3)
noncomputable def s2003 (a0 : S45) (a1 : S1089) (a2 : Int × Int) : Option Bool :=
 (bif ((((decide ((s40 a0) ≠ 0)) || (decide (60 < IntKind.i64.wrap (a0.fTo - a0.fFrom)))) || (decide (a0.fFrom = 0))) || (decide (1 < (ByteArray.size a1.Season.Kind : Int)))) || (decide ((s1048 (S1095.mk (S1085.mk a1.Night.fFrom a1.Night.fTo) (S67.mk a1.Season.Year a1.Season.Kind) a1.Count a1.Points)) ≠ 0)) then some s2006 else bindO (s70 a1.Season) fun r1 => (bif ((decide (IntKind.i64.wrap (((s2007 (S115.mk (⟨#[97]⟩) ByteArray.empty (⟨#[68]⟩) ByteArray.empty ByteArray.empty ByteArray.empty (S45.mk a0.fFrom a0.fTo a0.Days) (Int.tmod (IntKind.i64.wrap a2.1) 1440) 9 1 (Int.tmod (IntKind.i64.wrap a2.2) 100))).2) + r1.2) ≠ 0)) || (decide (61 < (List.length ((s2007 (S115.mk (⟨#[97]⟩) ByteArray.empty (⟨#[68]⟩) ByteArray.empty ByteArray.empty ByteArray.empty (S45.mk a0.fFrom a0.fTo a0.Days) (Int.tmod (IntKind.i64.wrap a2.1) 1440) 9 1 (Int.tmod (IntKind.i64.wrap a2.2) 100))).1) : Int)))) || (decide ((s1028 ((s2007 (S115.mk (⟨#[97]⟩) ByteArray.empty (⟨#[68]⟩) ByteArray.empty ByteArray.empty ByteArray.empty (S45.mk a0.fFrom a0.fTo a0.Days) (Int.tmod (IntKind.i64.wrap a2.1) 1440) 9 1 (Int.tmod (IntKind.i64.wrap a2.2) 100))).1)) ≠ 0)) then some false else bindO (s1071 a1 ((s2007 (S115.mk (⟨#[97]⟩) ByteArray.empty (⟨#[68]⟩) ByteArray.empty ByteArray.empty ByteArray.empty (S45.mk a0.fFrom a0.fTo a0.Days) (Int.tmod (IntKind.i64.wrap a2.1) 1440) 9 1 (Int.tmod (IntKind.i64.wrap a2.2) 100))).1)) fun r2 => (bif decide (r2.2 ≠ 0) then some false else (bif (decide (a1.Night.fFrom ≤ Int.tmod (IntKind.i64.wrap a2.1) 1440)) && ((decide (a1.Night.fTo < a1.Night.fFrom)) || (decide (Int.tmod (IntKind.i64.wrap a2.1) 1440 < a1.Night.fTo))) then (bif decide ((s2011 a0 r1.1).2 ≠ 0) then some false else s2003_j2 a0 a1 a2 r1 r2 (List.length ((s2011 a0 r1.1).1) : Int)) else s2003_j2 a0 a1 a2 r1 r2 0))))
theorem c2003 (a0 : S45) (a1 : S1089) (a2 : Int × Int) {R : Bool}   (hR : s2003 a0 a1 a2 = some R) : Con (EG glT) 3 [G.agg [G.int a0.fFrom, G.int a0.fTo, G.int a0.Days], G.agg [G.int a1.Night.fFrom, G.int a1.Night.fTo, G.int a1.Season.Year, G.str a1.Season.Kind, G.int a1.Count, G.int a1.Points], G.agg [G.lit (.int .u16 a2.1), G.lit (.int .u16 a2.2)]] (G.bool R) := by
 unfold s2003 at hR;refine con_of_aw Tryd.func3 rfl rfl fun w0 M0 => ?_;refine aw_seq ?_;refine aw_region [.p, .p, .p, .p] ?_;refine st rfl rfl (eff_box rfl rfl) rfl ?_;refine st rfl rfl (eff_box rfl rfl) rfl ?_;refine st rfl rfl (eff_box rfl rfl) rfl ?_;refine st rfl rfl (eff_assigng rfl rfl) rfl ?_;refine st_nil ?_;refine aw_seq ?_;refine aw_region [.p, .p, .p, .p, .p, .p, .p, .p, .p, .w, .w] ?_;refine st rfl rfl (eff_fieldAddr rfl fl1090_0 rfl) rfl ?_;refine st rfl rfl (eff_loadA rfl ty1086 rfl rfl rfl) rfl ?_;refine st rfl rfl (eff_fieldAddr rfl fl1090_1 rfl) rfl ?_;refine st rfl rfl (eff_loadA rfl ty68 rfl rfl rfl) rfl ?_;refine st rfl rfl (eff_fieldAddr rfl fl1090_2 rfl) rfl ?_;refine st rfl rfl (eff_load rfl ty3 rfl) rfl ?_;refine st rfl rfl (eff_fieldAddr rfl fl1090_3 rfl) rfl ?_;refine st rfl rfl (eff_load rfl ty3 rfl) rfl ?_;refine st rfl rfl (eff_build rfl z1096 rfl pl1096 (pb_cons rfl (pb_cons rfl (pb_cons rfl (pb_cons rfl pb_nil)))) rfl) rfl ?_;refine st_w rfl rfl (eff_alloc 7 rfl z1096 rfl rfl) rfl ?_;refine st_wn rfl rfl (eff_store (tv := .g (G.agg [G.int a1.Night.fFrom, G.int a1.Night.fTo, G.int a1.Season.Year, G.str a1.Season.Kind, G.int a1.Count, G.int a1.Points])) rfl ty1096 rfl rfl rfl rfl rfl) ?_;refine st_nil ?_;refine aw_seq ?_;refine aw_seq ?_;refine aw_region [.p, .p, .p, .p, .p, .p, .p, .p, .p, .p, .p, .p, .p, .p, .p, .p, .p, .p, .p, .p, .p, .p, .p, .p, .r, .p, .p, .p] ?_;refine st rfl rfl (eff_loadA rfl ty46 rfl rfl rfl) rfl ?_;refine st rfl rfl (eff_call rfl K40 rfl (c40 a0) (ag_cons rfl ag_nil)) rfl ?_;refine st rfl rfl (eff_neq rfl rfl rfl) rfl ?_;refine st rfl rfl (eff_moveg rfl rfl) rfl ?_;refine st_g rfl rfl rfl (gb_bool _ _) (fun h => eff_fieldAddr rfl fl46_1 rfl) rfl ?_;refine st_g rfl rfl rfl (gb_bool _ _) (fun h => eff_load rfl ty3 (gd h rfl)) rfl ?_;refine st_g rfl rfl rfl (gb_bool _ _) (fun h => eff_fieldAddr rfl fl46_0 rfl) rfl ?_;refine st_g rfl rfl rfl (gb_bool _ _) (fun h => eff_load rfl ty3 (gd h rfl)) rfl ?_;refine st_g rfl rfl rfl (gb_bool _ _) (fun h => eff_subw rfl (gd h rfl) (gd h rfl)) rfl ?_;refine st_g rfl rfl rfl (gb_bool _ _) (fun h => eff_gtr rfl (gd h rfl) rfl) rfl ?_;refine st rfl rfl (eff_or rfl rfl rfl rfl) rfl ?_;refine st rfl rfl (eff_moveg rfl rfl) rfl ?_;refine st_g rfl rfl rfl (gb_bool _ _) (fun h => eff_fieldAddr rfl fl46_0 rfl) rfl ?_;refine st_g rfl rfl rfl (gb_bool _ _) (fun h => eff_load rfl ty3 (gd h rfl)) rfl ?_;refine st_g rfl rfl rfl (gb_bool _ _) (fun h => eff_eql rfl (gd h rfl) rfl) rfl ?_;refine st rfl rfl (eff_or rfl rfl rfl rfl) rfl ?_;refine st rfl rfl (eff_moveg rfl rfl) rfl ?_;refine st_g rfl rfl rfl (gb_bool _ _) (fun h => eff_fieldAddr rfl fl1090_1 rfl) rfl ?_;refine st_g rfl rfl rfl (gb_bool _ _) (fun h => eff_fieldAddr rfl fl68_1 (gd h rfl)) rfl ?_;refine st_g rfl rfl rfl (gb_bool _ _) (fun h => eff_load rfl ty9 (gd h rfl)) rfl ?_;refine st_g rfl rfl rfl (gb_bool _ _) (fun h => eff_lenS rfl Tryd.underlying9 (gd h rfl)) rfl ?_;refine st_g rfl rfl rfl (gb_bool _ _) (fun h => eff_gtr rfl (gd h rfl) rfl) rfl ?_;refine st rfl rfl (eff_or rfl rfl rfl rfl) rfl ?_;refine st rfl rfl (eff_moveg rfl rfl) rfl ?_;refine st_gr rfl rfl rfl (gb_bool _ _) (fun h => eff_loadOA rfl ty1096 rfl rfl rfl rfl) rfl ?_;refine st_g rfl rfl rfl (gb_bool _ _) (fun h => eff_call rfl K1048 rfl (c1048 (S1095.mk (S1085.mk a1.Night.fFrom a1.Night.fTo) (S67.mk a1.Season.Year a1.Season.Kind) a1.Count a1.Points)) (ag_cons (gd h rfl) ag_nil)) rfl ?_;refine st_g rfl rfl rfl (gb_bool _ _) (fun h => eff_neq rfl (gd h rfl) rfl) rfl ?_;refine st rfl rfl (eff_or rfl rfl rfl rfl) rfl ?_;refine st_nil ?_;refine aw_cond _ rfl (fun h1 => ?_) (fun h1 => ?_)
 ·replace h1 : (((((decide ((s40 a0) ≠ 0)) || (decide (60 < IntKind.i64.wrap (a0.fTo - a0.fFrom)))) || (decide (a0.fFrom = 0))) || (decide (1 < (ByteArray.size a1.Season.Kind : Int)))) || (decide ((s1048 (S1095.mk (S1085.mk a1.Night.fFrom a1.Night.fTo) (S67.mk a1.Season.Year a1.Season.Kind) a1.Count a1.Points)) ≠ 0))) = true := h1;replace hR := condT hR h1;(try simp only [Bool.or_eq_true, Bool.and_eq_true, Bool.or_eq_false_iff, Bool.and_eq_false_iff, Bool.not_eq_true', Bool.not_eq_false', decide_eq_true_eq, decide_eq_false_iff_not] at h1);refine aw_seq ?_;refine aw_region [.p, .p] ?_;refine st rfl rfl (eff_call rfl K2006 rfl (c2006) ag_nil) rfl ?_;refine st rfl rfl (eff_assigng rfl rfl) rfl ?_;refine st_nil ?_;refine aw_ret ?_;obtain rfl := Option.some.inj hR;exact res_c rfl (rv_g rfl)
 ·replace h1 : (((((decide ((s40 a0) ≠ 0)) || (decide (60 < IntKind.i64.wrap (a0.fTo - a0.fFrom)))) || (decide (a0.fFrom = 0))) || (decide (1 < (ByteArray.size a1.Season.Kind : Int)))) || (decide ((s1048 (S1095.mk (S1085.mk a1.Night.fFrom a1.Night.fTo) (S67.mk a1.Season.Year a1.Season.Kind) a1.Count a1.Points)) ≠ 0))) = false := h1;replace hR := condF hR h1;(try simp only [Bool.or_eq_true, Bool.and_eq_true, Bool.or_eq_false_iff, Bool.and_eq_false_iff, Bool.not_eq_true', Bool.not_eq_false', decide_eq_true_eq, decide_eq_false_iff_not] at h1);refine aw_skip ?_;refine aw_seq ?_;refine aw_draw [.p, .p, .p, .p, .p, .p, .p, .p, .p, .p] (by kernel_rfl) ?_;refine st rfl rfl (eff_ixArr (f := (fun x => [G.lit (.int .u16 x)])) (l := [a2.1, a2.2]) (a := a2.1) rfl Tryd.underlying31 ty2030 rfl rfl (fun _ => rfl) rfl rfl (by decide) rfl) rfl ?_;refine st rfl rfl (eff_load rfl ty2030 rfl) rfl ?_;refine st rfl rfl (eff_conv rfl Tryd.underlying30 Tryd.underlying3 rfl) rfl ?_;refine st rfl rfl (eff_remt rfl rfl rfl (by decide)) rfl ?_;refine st rfl rfl (eff_ixArr (f := (fun x => [G.lit (.int .u16 x)])) (l := [a2.1, a2.2]) (a := a2.2) rfl Tryd.underlying31 ty2030 rfl rfl (fun _ => rfl) rfl rfl (by decide) rfl) rfl ?_;refine st rfl rfl (eff_load rfl ty2030 rfl) rfl ?_;refine st rfl rfl (eff_conv rfl Tryd.underlying30 Tryd.underlying3 rfl) rfl ?_;refine st rfl rfl (eff_remt rfl rfl rfl (by decide)) rfl ?_;refine st rfl rfl (eff_assigng rfl rfl) rfl ?_;refine st rfl rfl (eff_assigng rfl rfl) rfl ?_;refine st_nil ?_;refine aw_seq ?_;refine aw_region [.p, .p, .p, .p, .p, .p, .p, .p, .p, .p] ?_;refine st rfl rfl (eff_loadA rfl ty46 rfl rfl rfl) rfl ?_;refine st rfl rfl (eff_moveg rfl rfl) rfl ?_;refine st rfl rfl (eff_moveg rfl rfl) rfl ?_;refine st rfl rfl (eff_build rfl z116 rfl pl116 (pb_cons rfl (pb_cons rfl (pb_cons rfl (pb_cons rfl (pb_cons rfl (pb_cons rfl (pb_cons rfl pb_nil))))))) rfl) rfl ?_;refine st rfl rfl (eff_call rfl K2007 rfl (c2007 (S115.mk (⟨#[97]⟩) ByteArray.empty (⟨#[68]⟩) ByteArray.empty ByteArray.empty ByteArray.empty (S45.mk a0.fFrom a0.fTo a0.Days) (Int.tmod (IntKind.i64.wrap a2.1) 1440) 9 1 (Int.tmod (IntKind.i64.wrap a2.2) 100))) (ag_cons rfl ag_nil)) rfl ?_;refine st rfl rfl (eff_moveg rfl rfl) rfl ?_;refine st rfl rfl (eff_extract rfl rfl rfl) rfl ?_;refine st rfl rfl (eff_extract rfl rfl rfl) rfl ?_;refine st rfl rfl (eff_assigng rfl rfl) rfl ?_;refine st rfl rfl (eff_assigng rfl rfl) rfl ?_;refine st_nil ?_;refine aw_seq ?_;obtain ⟨r1, br1, hR⟩ := bindO_inv hR;refine aw_region [.p, .p, .p, .p, .p, .p, .w, .w, .p] ?_;refine st rfl rfl (eff_fieldAddr rfl fl1090_1 rfl) rfl ?_;refine st rfl rfl (eff_loadA rfl ty68 rfl rfl rfl) rfl ?_;refine st rfl rfl (eff_call rfl K70 rfl (c70 a1.Season br1) (ag_cons rfl ag_nil)) rfl ?_;refine st rfl rfl (eff_moveg rfl rfl) rfl ?_;refine st rfl rfl (eff_extract rfl rfl rfl) rfl ?_;refine st rfl rfl (eff_extract rfl rfl rfl) rfl ?_;refine st_w rfl rfl (eff_alloc 12 rfl z46 rfl rfl) rfl ?_;refine st_wn rfl rfl (eff_store (tv := .g (G.agg [G.int r1.1.fFrom, G.int r1.1.fTo, G.int r1.1.Days])) rfl ty46 rfl rfl rfl rfl rfl) ?_;refine st rfl rfl (eff_assigng rfl rfl) rfl ?_;refine st_nil ?_;refine aw_seq ?_;refine aw_seq ?_;refine aw_region [.p, .p, .p, .p, .p, .p, .p, .p, .p, .p, .p, .p, .p, .p] ?_;refine st rfl rfl (eff_moveg rfl rfl) rfl ?_;refine st rfl rfl (eff_moveg rfl rfl) rfl ?_;refine st rfl rfl (eff_addw rfl rfl rfl) rfl ?_;refine st rfl rfl (eff_neq rfl rfl rfl) rfl ?_;refine st rfl rfl (eff_moveg rfl rfl) rfl ?_;refine st_g rfl rfl rfl (gb_bool _ _) (fun h => eff_moveg rfl rfl) rfl ?_;refine st_g rfl rfl rfl (gb_bool _ _) (fun h => eff_lenM (f := S1079.c) (l := (s2007 (S115.mk (⟨#[97]⟩) ByteArray.empty (⟨#[68]⟩) ByteArray.empty ByteArray.empty ByteArray.empty (S45.mk a0.fFrom a0.fTo a0.Days) (Int.tmod (IntKind.i64.wrap a2.1) 1440) 9 1 (Int.tmod (IntKind.i64.wrap a2.2) 100))).1) rfl Tryd.underlying39 (gd h rfl)) rfl ?_;refine st_g rfl rfl rfl (gb_bool _ _) (fun h => eff_gtr rfl (gd h rfl) rfl) rfl ?_;refine st rfl rfl (eff_or rfl rfl rfl rfl) rfl ?_;refine st rfl rfl (eff_moveg rfl rfl) rfl ?_;refine st_g rfl rfl rfl (gb_bool _ _) (fun h => eff_moveg rfl rfl) rfl ?_;refine st_g rfl rfl rfl (gb_bool _ _) (fun h => eff_call rfl K1028 rfl (c1028 ((s2007 (S115.mk (⟨#[97]⟩) ByteArray.empty (⟨#[68]⟩) ByteArray.empty ByteArray.empty ByteArray.empty (S45.mk a0.fFrom a0.fTo a0.Days) (Int.tmod (IntKind.i64.wrap a2.1) 1440) 9 1 (Int.tmod (IntKind.i64.wrap a2.2) 100))).1)) (ag_cons (gd h rfl) ag_nil)) rfl ?_;refine st_g rfl rfl rfl (gb_bool _ _) (fun h => eff_neq rfl (gd h rfl) rfl) rfl ?_;refine st rfl rfl (eff_or rfl rfl rfl rfl) rfl ?_;refine st_nil ?_;refine aw_cond _ rfl (fun h2 => ?_) (fun h2 => ?_)
  ·replace h2 : (((decide (IntKind.i64.wrap (((s2007 (S115.mk (⟨#[97]⟩) ByteArray.empty (⟨#[68]⟩) ByteArray.empty ByteArray.empty ByteArray.empty (S45.mk a0.fFrom a0.fTo a0.Days) (Int.tmod (IntKind.i64.wrap a2.1) 1440) 9 1 (Int.tmod (IntKind.i64.wrap a2.2) 100))).2) + r1.2) ≠ 0)) || (decide (61 < (List.length ((s2007 (S115.mk (⟨#[97]⟩) ByteArray.empty (⟨#[68]⟩) ByteArray.empty ByteArray.empty ByteArray.empty (S45.mk a0.fFrom a0.fTo a0.Days) (Int.tmod (IntKind.i64.wrap a2.1) 1440) 9 1 (Int.tmod (IntKind.i64.wrap a2.2) 100))).1) : Int)))) || (decide ((s1028 ((s2007 (S115.mk (⟨#[97]⟩) ByteArray.empty (⟨#[68]⟩) ByteArray.empty ByteArray.empty ByteArray.empty (S45.mk a0.fFrom a0.fTo a0.Days) (Int.tmod (IntKind.i64.wrap a2.1) 1440) 9 1 (Int.tmod (IntKind.i64.wrap a2.2) 100))).1)) ≠ 0))) = true := h2;replace hR := condT hR h2;(try simp only [Bool.or_eq_true, Bool.and_eq_true, Bool.or_eq_false_iff, Bool.and_eq_false_iff, Bool.not_eq_true', Bool.not_eq_false', decide_eq_true_eq, decide_eq_false_iff_not] at h2);refine aw_seq ?_;refine aw_region [.p] ?_;refine st rfl rfl (eff_assigng rfl rfl) rfl ?_;refine st_nil ?_;refine aw_ret ?_;obtain rfl := Option.some.inj hR;exact res_c rfl (rv_g rfl)
  ·replace h2 : (((decide (IntKind.i64.wrap (((s2007 (S115.mk (⟨#[97]⟩) ByteArray.empty (⟨#[68]⟩) ByteArray.empty ByteArray.empty ByteArray.empty (S45.mk a0.fFrom a0.fTo a0.Days) (Int.tmod (IntKind.i64.wrap a2.1) 1440) 9 1 (Int.tmod (IntKind.i64.wrap a2.2) 100))).2) + r1.2) ≠ 0)) || (decide (61 < (List.length ((s2007 (S115.mk (⟨#[97]⟩) ByteArray.empty (⟨#[68]⟩) ByteArray.empty ByteArray.empty ByteArray.empty (S45.mk a0.fFrom a0.fTo a0.Days) (Int.tmod (IntKind.i64.wrap a2.1) 1440) 9 1 (Int.tmod (IntKind.i64.wrap a2.2) 100))).1) : Int)))) || (decide ((s1028 ((s2007 (S115.mk (⟨#[97]⟩) ByteArray.empty (⟨#[68]⟩) ByteArray.empty ByteArray.empty ByteArray.empty (S45.mk a0.fFrom a0.fTo a0.Days) (Int.tmod (IntKind.i64.wrap a2.1) 1440) 9 1 (Int.tmod (IntKind.i64.wrap a2.2) 100))).1)) ≠ 0))) = false := h2;replace hR := condF hR h2;(try simp only [Bool.or_eq_true, Bool.and_eq_true, Bool.or_eq_false_iff, Bool.and_eq_false_iff, Bool.not_eq_true', Bool.not_eq_false', decide_eq_true_eq, decide_eq_false_iff_not] at h2);refine aw_skip ?_;refine aw_seq ?_;obtain ⟨r2, br2, hR⟩ := bindO_inv hR;refine aw_region [.p, .p, .p, .p, .p, .p, .w, .w, .p] ?_;refine st rfl rfl (eff_loadA rfl ty1090 rfl rfl rfl) rfl ?_;refine st rfl rfl (eff_moveg rfl rfl) rfl ?_;refine st rfl rfl (eff_call rfl K1071 rfl (c1071 a1 ((s2007 (S115.mk (⟨#[97]⟩) ByteArray.empty (⟨#[68]⟩) ByteArray.empty ByteArray.empty ByteArray.empty (S45.mk a0.fFrom a0.fTo a0.Days) (Int.tmod (IntKind.i64.wrap a2.1) 1440) 9 1 (Int.tmod (IntKind.i64.wrap a2.2) 100))).1) hpm71 br2) (ag_cons rfl (ag_cons rfl ag_nil))) rfl ?_;refine st rfl rfl (eff_moveg rfl rfl) rfl ?_;refine st rfl rfl (eff_extract rfl rfl rfl) rfl ?_;refine st rfl rfl (eff_extract rfl rfl rfl) rfl ?_;refine st_w rfl rfl (eff_alloc 14 rfl z1144 rfl rfl) rfl ?_;refine st_wn rfl rfl (eff_store (tv := .g (G.agg [G.int r2.1.Count, G.int r2.1.Points])) rfl ty1144 rfl rfl rfl rfl rfl) ?_;refine st rfl rfl (eff_assigng rfl rfl) rfl ?_;refine st_nil ?_;refine aw_seq ?_;refine aw_seq ?_;refine aw_region [.p, .p] ?_;refine st rfl rfl (eff_moveg rfl rfl) rfl ?_;refine st rfl rfl (eff_neq rfl rfl rfl) rfl ?_;refine st_nil ?_;refine aw_cond _ rfl (fun h3 => ?_) (fun h3 => ?_)
   ·replace h3 : (decide (r2.2 ≠ 0)) = true := h3;replace hR := condT hR h3;(try simp only [Bool.or_eq_true, Bool.and_eq_true, Bool.or_eq_false_iff, Bool.and_eq_false_iff, Bool.not_eq_true', Bool.not_eq_false', decide_eq_true_eq, decide_eq_false_iff_not] at h3);refine aw_seq ?_;refine aw_region [.p] ?_;refine st rfl rfl (eff_assigng rfl rfl) rfl ?_;refine st_nil ?_;refine aw_ret ?_;obtain rfl := Option.some.inj hR;exact res_c rfl (rv_g rfl)
   ·replace h3 : (decide (r2.2 ≠ 0)) = false := h3;replace hR := condF hR h3;(try simp only [Bool.or_eq_true, Bool.and_eq_true, Bool.or_eq_false_iff, Bool.and_eq_false_iff, Bool.not_eq_true', Bool.not_eq_false', decide_eq_true_eq, decide_eq_false_iff_not] at h3);refine aw_skip ?_;refine aw_seq ?_;refine aw_region [.p, .p, .p, .p, .p, .p, .p, .p, .p, .p, .p, .p, .p, .p, .p, .p, .p, .p, .p, .p, .p, .p] ?_;refine st rfl rfl (eff_moveg rfl rfl) rfl ?_;refine st rfl rfl (eff_fieldAddr rfl fl1090_0 rfl) rfl ?_;refine st rfl rfl (eff_fieldAddr rfl fl1086_0 rfl) rfl ?_;refine st rfl rfl (eff_load rfl ty3 rfl) rfl ?_;refine st rfl rfl (eff_geq rfl rfl rfl) rfl ?_;refine st rfl rfl (eff_moveg rfl rfl) rfl ?_;refine st_g rfl rfl rfl (gb_bool _ _) (fun h => eff_fieldAddr rfl fl1090_0 rfl) rfl ?_;refine st_g rfl rfl rfl (gb_bool _ _) (fun h => eff_fieldAddr rfl fl1086_0 (gd h rfl)) rfl ?_;refine st_g rfl rfl rfl (gb_bool _ _) (fun h => eff_load rfl ty3 (gd h rfl)) rfl ?_;refine st_g rfl rfl rfl (gb_bool _ _) (fun h => eff_fieldAddr rfl fl1090_0 rfl) rfl ?_;refine st_g rfl rfl rfl (gb_bool _ _) (fun h => eff_fieldAddr rfl fl1086_1 (gd h rfl)) rfl ?_;refine st_g rfl rfl rfl (gb_bool _ _) (fun h => eff_load rfl ty3 (gd h rfl)) rfl ?_;refine st_g rfl rfl rfl (gb_bool _ _) (fun h => eff_gtr rfl (gd h rfl) (gd h rfl)) rfl ?_;refine st_g rfl rfl rfl (gb_bool _ _) (fun h => eff_moveg rfl (gd h rfl)) rfl ?_;refine st_g rfl rfl rfl (gb_if _ _ _) (fun h => eff_moveg rfl rfl) rfl ?_;refine st_g rfl rfl rfl (gb_if _ _ _) (fun h => eff_fieldAddr rfl fl1090_0 rfl) rfl ?_;refine st_g rfl rfl rfl (gb_if _ _ _) (fun h => eff_fieldAddr rfl fl1086_1 (gd h rfl)) rfl ?_;refine st_g rfl rfl rfl (gb_if _ _ _) (fun h => eff_load rfl ty3 (gd h rfl)) rfl ?_;refine st_g rfl rfl rfl (gb_if _ _ _) (fun h => eff_lss rfl (gd h rfl) (gd h rfl)) rfl ?_;refine st_g rfl rfl rfl (gb_bool _ _) (fun h => eff_or rfl (gd h rfl) rfl (gd2 h rfl)) rfl ?_;refine st rfl rfl (eff_and rfl rfl rfl rfl) rfl ?_;refine st rfl rfl (eff_assigng rfl rfl) rfl ?_;refine st_nil ?_;refine aw_seq ?_;refine aw_region [.p, .p, .p, .p, .p, .p, .p, .p, .p, .p, .p, .p, .p, .p, .p] ?_;refine st rfl rfl (eff_fieldAddr rfl fl1090_0 rfl) rfl ?_;refine st rfl rfl (eff_fieldAddr rfl fl1086_0 rfl) rfl ?_;refine st rfl rfl (eff_load rfl ty3 rfl) rfl ?_;refine st rfl rfl (eff_fieldAddr rfl fl1090_0 rfl) rfl ?_;refine st rfl rfl (eff_fieldAddr rfl fl1086_1 rfl) rfl ?_;refine st rfl rfl (eff_load rfl ty3 rfl) rfl ?_;refine st rfl rfl (eff_gtr rfl rfl rfl) rfl ?_;refine st rfl rfl (eff_moveg rfl rfl) rfl ?_;refine st_g rfl rfl rfl (gb_bool _ _) (fun h => eff_moveg rfl rfl) rfl ?_;refine st_g rfl rfl rfl (gb_bool _ _) (fun h => eff_fieldAddr rfl fl1090_0 rfl) rfl ?_;refine st_g rfl rfl rfl (gb_bool _ _) (fun h => eff_fieldAddr rfl fl1086_1 (gd h rfl)) rfl ?_;refine st_g rfl rfl rfl (gb_bool _ _) (fun h => eff_load rfl ty3 (gd h rfl)) rfl ?_;refine st_g rfl rfl rfl (gb_bool _ _) (fun h => eff_lss rfl (gd h rfl) (gd h rfl)) rfl ?_;refine st rfl rfl (eff_and rfl rfl rfl rfl) rfl ?_;refine st rfl rfl (eff_assigng rfl rfl) rfl ?_;refine st_nil ?_;refine aw_seq ?_;refine aw_region [.p] ?_;refine st rfl rfl (eff_assigng rfl rfl) rfl ?_;refine st_nil ?_;refine aw_cut_g (γ := Int) (fun g => ([(3, .g (G.ref [G.int a0.fFrom, G.int a0.fTo, G.int a0.Days])), (9, .g (G.int (Int.tmod (IntKind.i64.wrap a2.2) 100))), (12, .ptr 12 0), (14, .ptr 14 0), (17, .g (G.bool ((decide (a1.Night.fTo < a1.Night.fFrom)) && (decide (Int.tmod (IntKind.i64.wrap a2.1) 1440 < a1.Night.fTo))))), (18, .g (G.int g))], [(12, .box [.g (G.int r1.1.fFrom), .g (G.int r1.1.fTo), .g (G.int r1.1.Days)]), (14, .box [.g (G.int r2.1.Count), .g (G.int r2.1.Points)])])) (fun g => s2003_j2 a0 a1 a2 r1 r2 g = some R) ?_ ?_
    ·refine aw_seq ?_;refine aw_region [.p] ?_;refine st rfl rfl (eff_moveg rfl rfl) rfl ?_;refine st_nil ?_;refine aw_cond _ rfl (fun h6 => ?_) (fun h6 => ?_)
     ·replace h6 : ((decide (a1.Night.fFrom ≤ Int.tmod (IntKind.i64.wrap a2.1) 1440)) && ((decide (a1.Night.fTo < a1.Night.fFrom)) || (decide (Int.tmod (IntKind.i64.wrap a2.1) 1440 < a1.Night.fTo)))) = true := h6;replace hR := condT hR h6;(try simp only [Bool.or_eq_true, Bool.and_eq_true, Bool.or_eq_false_iff, Bool.and_eq_false_iff, Bool.not_eq_true', Bool.not_eq_false', decide_eq_true_eq, decide_eq_false_iff_not] at h6);refine aw_seq ?_;refine aw_region [.p, .r, .p, .p, .p, .p, .p, .p] ?_;refine st rfl rfl (eff_loadA rfl ty46 rfl rfl rfl) rfl ?_;refine st_r rfl rfl (eff_loadOA rfl ty46 rfl rfl rfl rfl) rfl ?_;refine st rfl rfl (eff_call rfl K2011 rfl (c2011' a0 r1.1) (ag_cons rfl (ag_cons rfl ag_nil))) rfl ?_;refine st rfl rfl (eff_moveg rfl rfl) rfl ?_;refine st rfl rfl (eff_extract rfl rfl rfl) rfl ?_;refine st rfl rfl (eff_extract rfl rfl rfl) rfl ?_;refine st rfl rfl (eff_assigng rfl rfl) rfl ?_;refine st rfl rfl (eff_assigng rfl rfl) rfl ?_;refine st_nil ?_;refine aw_seq ?_;refine aw_seq ?_;refine aw_region [.p, .p] ?_;refine st rfl rfl (eff_moveg rfl rfl) rfl ?_;refine st rfl rfl (eff_neq rfl rfl rfl) rfl ?_;refine st_nil ?_;refine aw_cond _ rfl (fun h7 => ?_) (fun h7 => ?_)
      ·replace h7 : (decide ((s2011 a0 r1.1).2 ≠ 0)) = true := h7;replace hR := condT hR h7;(try simp only [Bool.or_eq_true, Bool.and_eq_true, Bool.or_eq_false_iff, Bool.and_eq_false_iff, Bool.not_eq_true', Bool.not_eq_false', decide_eq_true_eq, decide_eq_false_iff_not] at h7);refine aw_seq ?_;refine aw_region [.p] ?_;refine st rfl rfl (eff_assigng rfl rfl) rfl ?_;refine st_nil ?_;refine aw_ret ?_;obtain rfl := Option.some.inj hR;exact res_c rfl (rv_g rfl)
      ·replace h7 : (decide ((s2011 a0 r1.1).2 ≠ 0)) = false := h7;replace hR := condF hR h7;(try simp only [Bool.or_eq_true, Bool.and_eq_true, Bool.or_eq_false_iff, Bool.and_eq_false_iff, Bool.not_eq_true', Bool.not_eq_false', decide_eq_true_eq, decide_eq_false_iff_not] at h7);refine aw_skip ?_;refine aw_region [.p, .p, .p] ?_;refine st rfl rfl (eff_moveg rfl rfl) rfl ?_;refine st rfl rfl (eff_lenM (f := cInt) (l := (s2011 a0 r1.1).1) rfl Tryd.underlying52 rfl) rfl ?_;refine st rfl rfl (eff_assigng rfl rfl) rfl ?_;refine st_nil ?_;exact ⟨rfl, (List.length ((s2011 a0 r1.1).1) : Int), ⟨rfl, rfl, rfl, rfl, rfl, rfl, trivial⟩, ⟨rfl, rfl, trivial⟩, rfl, hR, trivial⟩
     ·replace h6 : ((decide (a1.Night.fFrom ≤ Int.tmod (IntKind.i64.wrap a2.1) 1440)) && ((decide (a1.Night.fTo < a1.Night.fFrom)) || (decide (Int.tmod (IntKind.i64.wrap a2.1) 1440 < a1.Night.fTo)))) = false := h6;replace hR := condF hR h6;(try simp only [Bool.or_eq_true, Bool.and_eq_true, Bool.or_eq_false_iff, Bool.and_eq_false_iff, Bool.not_eq_true', Bool.not_eq_false', decide_eq_true_eq, decide_eq_false_iff_not] at h6);refine aw_skip ?_;exact ⟨rfl, 0, ⟨rfl, rfl, rfl, rfl, rfl, rfl, trivial⟩, ⟨rfl, rfl, trivial⟩, rfl, hR, trivial⟩
    ·rintro x3 hR;replace hR : s2003_j2 a0 a1 a2 r1 r2 x3 = some R := hR;unfold s2003_j2 at hR;refine aw_cut_g (γ := Int) (fun g => ([(9, .g (G.int (Int.tmod (IntKind.i64.wrap a2.2) 100))), (14, .ptr 14 0), (18, .g (G.int g))], [(14, .box [.g (G.int r2.1.Count), .g (G.int r2.1.Points)])])) (fun g => s2003_j1 a2 r2 g = some R) ?_ ?_
     ·refine aw_seq ?_;refine aw_region [.p] ?_;refine st rfl rfl (eff_moveg rfl rfl) rfl ?_;refine st_nil ?_;refine aw_cond _ rfl (fun h4 => ?_) (fun h4 => ?_)
      ·replace h4 : ((decide (a1.Night.fTo < a1.Night.fFrom)) && (decide (Int.tmod (IntKind.i64.wrap a2.1) 1440 < a1.Night.fTo))) = true := h4;replace hR := condT hR h4;(try simp only [Bool.or_eq_true, Bool.and_eq_true, Bool.or_eq_false_iff, Bool.and_eq_false_iff, Bool.not_eq_true', Bool.not_eq_false', decide_eq_true_eq, decide_eq_false_iff_not] at h4);refine aw_seq ?_;refine aw_region [.p, .p, .p, .p, .p, .w, .w, .p] ?_;refine st rfl rfl (eff_loadA rfl ty46 rfl rfl rfl) rfl ?_;refine st rfl rfl (eff_call rfl K2012 rfl (c2012 a0 (-1)) (ag_cons rfl (ag_cons rfl ag_nil))) rfl ?_;refine st rfl rfl (eff_moveg rfl rfl) rfl ?_;refine st rfl rfl (eff_extract rfl rfl rfl) rfl ?_;refine st rfl rfl (eff_extract rfl rfl rfl) rfl ?_;refine st_w rfl rfl (eff_alloc 21 rfl z46 rfl rfl) rfl ?_;refine st_wn rfl rfl (eff_store (tv := .g (G.agg [G.int ((s2012 a0 (-1)).1.fFrom), G.int ((s2012 a0 (-1)).1.fTo), G.int ((s2012 a0 (-1)).1.Days)])) rfl ty46 rfl rfl rfl rfl rfl) ?_;refine st rfl rfl (eff_assigng rfl rfl) rfl ?_;refine st_nil ?_;refine aw_seq ?_;refine aw_region [.r, .r, .p, .p, .p, .p, .p, .p] ?_;refine st_r rfl rfl (eff_loadOA rfl ty46 rfl rfl rfl rfl) rfl ?_;refine st_r rfl rfl (eff_loadOA rfl ty46 rfl rfl rfl rfl) rfl ?_;refine st rfl rfl (eff_call rfl K2011 rfl (c2011' ((s2012 a0 (-1)).1) r1.1) (ag_cons rfl (ag_cons rfl ag_nil))) rfl ?_;refine st rfl rfl (eff_moveg rfl rfl) rfl ?_;refine st rfl rfl (eff_extract rfl rfl rfl) rfl ?_;refine st rfl rfl (eff_extract rfl rfl rfl) rfl ?_;refine st rfl rfl (eff_assigng rfl rfl) rfl ?_;refine st rfl rfl (eff_assigng rfl rfl) rfl ?_;refine st_nil ?_;refine aw_seq ?_;refine aw_seq ?_;refine aw_region [.p, .p, .p, .p] ?_;refine st rfl rfl (eff_moveg rfl rfl) rfl ?_;refine st rfl rfl (eff_moveg rfl rfl) rfl ?_;refine st rfl rfl (eff_addw rfl rfl rfl) rfl ?_;refine st rfl rfl (eff_neq rfl rfl rfl) rfl ?_;refine st_nil ?_;refine aw_cond _ rfl (fun h5 => ?_) (fun h5 => ?_)
       ·replace h5 : (decide (IntKind.i64.wrap (((s2012 a0 (-1)).2) + ((s2011 ((s2012 a0 (-1)).1) r1.1).2)) ≠ 0)) = true := h5;replace hR := condT hR h5;(try simp only [Bool.or_eq_true, Bool.and_eq_true, Bool.or_eq_false_iff, Bool.and_eq_false_iff, Bool.not_eq_true', Bool.not_eq_false', decide_eq_true_eq, decide_eq_false_iff_not] at h5);refine aw_seq ?_;refine aw_region [.p] ?_;refine st rfl rfl (eff_assigng rfl rfl) rfl ?_;refine st_nil ?_;refine aw_ret ?_;obtain rfl := Option.some.inj hR;exact res_c rfl (rv_g rfl)
       ·replace h5 : (decide (IntKind.i64.wrap (((s2012 a0 (-1)).2) + ((s2011 ((s2012 a0 (-1)).1) r1.1).2)) ≠ 0)) = false := h5;replace hR := condF hR h5;(try simp only [Bool.or_eq_true, Bool.and_eq_true, Bool.or_eq_false_iff, Bool.and_eq_false_iff, Bool.not_eq_true', Bool.not_eq_false', decide_eq_true_eq, decide_eq_false_iff_not] at h5);refine aw_skip ?_;refine aw_region [.p, .p, .p] ?_;refine st rfl rfl (eff_moveg rfl rfl) rfl ?_;refine st rfl rfl (eff_lenM (f := cInt) (l := (s2011 ((s2012 a0 (-1)).1) r1.1).1) rfl Tryd.underlying52 rfl) rfl ?_;refine st rfl rfl (eff_assigng rfl rfl) rfl ?_;refine st_nil ?_;exact ⟨rfl, (List.length ((s2011 ((s2012 a0 (-1)).1) r1.1).1) : Int), ⟨rfl, rfl, rfl, trivial⟩, ⟨rfl, trivial⟩, rfl, hR, trivial⟩
      ·replace h4 : ((decide (a1.Night.fTo < a1.Night.fFrom)) && (decide (Int.tmod (IntKind.i64.wrap a2.1) 1440 < a1.Night.fTo))) = false := h4;replace hR := condF hR h4;(try simp only [Bool.or_eq_true, Bool.and_eq_true, Bool.or_eq_false_iff, Bool.and_eq_false_iff, Bool.not_eq_true', Bool.not_eq_false', decide_eq_true_eq, decide_eq_false_iff_not] at h4);refine aw_skip ?_;exact ⟨rfl, x3, ⟨rfl, rfl, rfl, trivial⟩, ⟨rfl, trivial⟩, rfl, hR, trivial⟩
     ·rintro x4 hR;replace hR : s2003_j1 a2 r2 x4 = some R := hR;unfold s2003_j1 at hR;refine aw_seq ?_;refine aw_region [.r, .p, .p, .p, .p, .p, .p, .p, .p, .p, .p] ?_;refine st_r rfl rfl (eff_loadOA rfl ty1144 rfl rfl rfl rfl) rfl ?_;refine st rfl rfl (eff_moveg rfl rfl) rfl ?_;refine st rfl rfl (eff_moveg rfl rfl) rfl ?_;refine st rfl rfl (eff_moveg rfl rfl) rfl ?_;refine st rfl rfl (eff_mulw rfl rfl rfl) rfl ?_;refine st rfl rfl (eff_build rfl z1144 rfl pl1144 (pb_cons rfl (pb_cons rfl pb_nil)) rfl) rfl ?_;refine st rfl rfl (eff_aeql [.int .i64 r2.1.Count, .int .i64 r2.1.Points] [.int .i64 x4, .int .i64 (IntKind.i64.wrap (x4 * (Int.tmod (IntKind.i64.wrap a2.2) 100)))] rfl flat1144 rfl rfl rfl rfl rfl) rfl ?_;refine st rfl rfl (eff_moveg rfl rfl) rfl ?_;refine st_g rfl rfl rfl (gb_bool _ _) (fun h => eff_call rfl K2006 rfl (c2006) ag_nil) rfl ?_;refine st rfl rfl (eff_and rfl rfl rfl rfl) rfl ?_;refine st rfl rfl (eff_assigng rfl rfl) rfl ?_;refine st_nil ?_;refine aw_ret ?_;obtain rfl := Option.some.inj hR;exact res_c rfl (rv_g rfl)
theorem quota_eq (a : S1089) : s1048 (S1095.mk (S1085.mk a.Night.fFrom a.Night.fTo) (S67.mk a.Season.Year a.Season.Kind) a.Count a.Points) = s1047 a := by
 unfold s1047 s1048;rw [s1085_eq, s1117_eq, s107_eq, s1088_eq, s1088_eq]
theorem period_eq (p : S45) : s102 p = s40 p := by
 unfold s102 s40;simp only [s152_eq, s89_cons, s89_nil, s153, s155, s109, s90, s154]
 by_cases h1 : p.fFrom < 0 <;> by_cases h1' : 99999 < p.fFrom <;> by_cases h2 : p.fTo < 0 <;> by_cases h2' : 99999 < p.fTo <;> simp only [h1, h1', h2, h2', decide_true, decide_false, Bool.or_true, Bool.true_or, Bool.or_false, cond_true, cond_false] <;> try rfl
 by_cases h3 : p.fTo < p.fFrom <;> by_cases h4 : 400 < IntKind.i64.wrap (p.fTo - p.fFrom) <;> by_cases h5 : p.Days < 1 <;> by_cases h6 : 127 < p.Days <;> simp [h3, h4, h5, h6]
theorem s155_zero {n a b : Int} (h0 : a ≤ n) (h1 : n ≤ b) : s155 n a b = 0 := by rw [s155_eq, s90_zero]; exact ⟨h0, h1⟩
theorem s102_mk {p : S45} (h0 : 0 ≤ p.fFrom) (h1 : p.fFrom ≤ p.fTo) (h2 : p.fTo ≤ 99999) (h3 : p.fTo - p.fFrom ≤ 400) (h4 : 1 ≤ p.Days) (h5 : p.Days ≤ 127) : s102 p = 0 := by
 have e1 : s153 p.fFrom = 0 := s155_zero h0 (by omega);have e2 : s153 p.fTo = 0 := s155_zero (by omega) h2;have e3 : s155 p.Days 1 127 = 0 := s155_zero h4 h5;unfold s102;rw [e1, e2, e3, wrap_i64 (n := p.fTo - p.fFrom) (by unfold I64; omega), decide_eq_false (show ¬ p.fTo < p.fFrom by omega), decide_eq_false (show ¬ 400 < p.fTo - p.fFrom by omega)]
 rfl
theorem dayL_mem {m : Int} : ∀ {n : Nat} {f d : Int}, d ∈ dayL m n f → f ≤ d ∧ d < f + (n : Int) ∧ inM m d = true
 | 0, f, d, h => by cases h
 | n + 1, f, d, h => by
  unfold dayL at h
  split at h
  ·rename_i hm
   rcases List.mem_cons.1 h with rfl | h
   ·exact ⟨Int.le_refl _, by omega, hm⟩
   ·have := dayL_mem h;exact ⟨by omega, by push_cast; omega, this.2.2⟩
  ·have := dayL_mem h;exact ⟨by omega, by push_cast; omega, this.2.2⟩
def mv (mi no : Int) (d : Int) : S1079 := S1079.mk (1440 * d + mi) (⟨#[68]⟩) ByteArray.empty 9 1 no (⟨#[97]⟩)
def rq (p : S45) (mi no : Int) : S115 := S115.mk (⟨#[97]⟩) ByteArray.empty (⟨#[68]⟩) ByteArray.empty ByteArray.empty ByteArray.empty p mi 9 1 no
theorem s2021_run (p : S45) {mi no : Int} (h0 : 0 ≤ mi) (h1 : mi ≤ 1439) : ∀ (l : List Int) (k : Nat) (x : List S1079), (∀ d ∈ l, 0 ≤ d ∧ d ≤ 99999) → s2021_l1 (rq p mi no) l k x = x ++ l.map (mv mi no)
 | [], k, x, _ => by simp [s2021_l1]
 | d :: l, k, x, h => by
  have hd := h d List.mem_cons_self;rw [s2021_l1, wrap_i64 (n := 1440 * d) (by unfold I64; omega), show (rq p mi no).Minute = mi from rfl, wrap_i64 (by unfold I64; omega), s2021_run p h0 h1 l _ _ (fun y hy => h y (List.mem_cons_of_mem _ hy))]
  simp [mv, rq]
theorem s2052_zero {n a b : Int} (h0 : a ≤ n) (h1 : n ≤ b) : s2052 n a b = 0 := by
 unfold s2052 s2048;rw [decide_eq_false (show ¬ n < a by omega), decide_eq_false (show ¬ b < n by omega)]; rfl
theorem name_a : s147 (⟨#[97]⟩ : ByteArray) = true := by decide +kernel
theorem req_zero {p : S45} (hp : s102 p = 0) {mi no : Int} (h0 : 0 ≤ mi) (h1 : mi ≤ 1439) (n0 : 0 ≤ no) (n1 : no ≤ 99) : s2020 (rq p mi no) = 0 := by
 unfold s2020;rw [s2047_zero];intro x hx;simp only [List.mem_cons, List.not_mem_nil, or_false] at hx
 rcases hx with rfl | rfl | rfl | rfl | rfl | rfl
 ·rw [show (rq p mi no).Name = (⟨#[97]⟩ : ByteArray) from rfl, name_a]; rfl
 ·rfl
 ·rfl
 ·exact hp
 ·exact s2052_zero h0 h1
 ·unfold s2053;rw [s2047_zero];intro x hx;simp only [List.mem_cons, List.not_mem_nil, or_false] at hx
  rcases hx with rfl | rfl | rfl
  ·rfl
  ·rfl
  ·exact s2052_zero n0 n1
def days (p : S45) : List Int := dayL p.Days (p.fTo + 1 - p.fFrom).toNat p.fFrom
theorem s2007_ok {p : S45} (hp : s102 p = 0) {mi no : Int} (h0 : 0 ≤ mi) (h1 : mi ≤ 1439) (n0 : 0 ≤ no) (n1 : no ≤ 99) : s2007 (rq p mi no) = ((days p).map (mv mi no), 0) := by
 obtain ⟨q1, q2, q3, q4, q5, q6⟩ := period_ok p hp;unfold s2007;rw [req_zero hp h0 h1 n0 n1];unfold s2021;rw [show (rq p mi no).Period = p from rfl, s69_ok hp, s2021_run p h0 h1 _ _ _ (fun d hd => by have := dayL_mem hd; omega)]
 rfl
def qn (a : S1089) (m : S1079) : Bool := decide (beg a.Season ≤ s1120 a.Night m.Moment) && decide (s1120 a.Night m.Moment ≤ nxt a.Season - 1)
theorem used_run {a0 : S1089} : ∀ (l : List S1079) (k : Nat) (m : Mp), s1132_l1 a0 (⟨beg a0.Season, nxt a0.Season - 1, 127⟩, 0) l k m = some (tabU (qn a0) l m)
 | [], k, m => rfl
 | y :: l, k, m => by
  rw [s1132_l1];unfold s1132_j1;rw [show ((decide (beg a0.Season ≤ (s1120 a0.Night y.Moment))) && (decide ((s1120 a0.Night y.Moment) ≤ nxt a0.Season - 1))) = qn a0 y from rfl, tabU]
  cases hq : qn a0 y
  ·rw [cond_false, if_neg (by simp)]; dsimp only; rw [used_run l]
  ·rw [cond_true, if_pos rfl]; dsimp only; rw [used_run l]
theorem used_long {a0 : S1089} {l : List S1079} (hz : s1047 a0 = 0) (hm : s1027 l = 0) : s1071 a0 l = some (⟨cA (qn a0) l, pA (qn a0) l⟩, 0) := by
 have hm2 := movs_ok hm;obtain ⟨_, hs, _, _⟩ := quota_in hz;have hno : ∀ x ∈ l, 0 ≤ x.Noise ∧ x.Noise ≤ 99 := fun x hx => ⟨(hm2.2 x hx).n0, (hm2.2 x hx).n1⟩
 have hm3 : TabOk (qn a0) l (tabU (qn a0) l []) := by
  have := tabU_ok (qn a0) l [] [] (by simp; omega) (fun m hm => hno m (by simpa using hm)) (tabU_nil _)
  simpa using this
 have hm1 : s1132 a0 l = some (tabU (qn a0) l []) := by
  unfold s1132;rw [s70_ok hs];exact used_run l 0 []
 have c1 : 0 ≤ cA (qn a0) l ∧ cA (qn a0) l ≤ l.length := by unfold cA; have := len_filter (qn a0) l; omega
 have c2 := flt_rng (qn a0) hno
 have hzz : s1085 [s1047 a0, s1027 l] = 0 := by rw [s1085_eq, hz, hm]; rfl
 unfold s1071;rw [hzz, hm1];simp only [bindO, ne_eq, not_true_eq_false, decide_false, cond_false];unfold s1071_e1;rw [b1_sum0];have h1 := hm3.sc;have h2 := hm3.sp;unfold msum at h1 h2;rw [h1, h2, wrap_i64 (by unfold I64; omega), wrap_i64 (by unfold I64 pA; omega)]
theorem of_eq (n : S1085) {d mi : Int} (hd : 1 ≤ d) (hd2 : d ≤ 99999) (h0 : 0 ≤ mi) (h1 : mi ≤ 1439) : s1120 n (1440 * d + mi) = if n.fFrom < n.fTo then (if n.fFrom ≤ mi ∧ mi < n.fTo then d else -1) else if n.fFrom ≤ mi then d else if mi < n.fTo then d - 1 else -1 := by
 have e1 : Int.tmod (1440 * d + mi) 1440 = mi := by rw [Int.tmod_eq_emod_of_nonneg (by omega)]; omega
 have e2 : Int.tdiv (1440 * d + mi) 1440 = d := by rw [Int.tdiv_eq_ediv_of_nonneg (by omega)]; omega
 have w1 : IntKind.i64.wrap d = d := wrap_i64 (by unfold I64; omega);have w2 : IntKind.i64.wrap (d - 1) = d - 1 := wrap_i64 (by unfold I64; omega);unfold s1120;rw [e1, e2];simp only [w1, w2, cond_eq_ite, Bool.and_eq_true, Bool.or_eq_true, decide_eq_true_eq]
 by_cases c1 : n.fFrom < n.fTo <;> by_cases c2 : mi < n.fFrom <;> by_cases c3 : mi < n.fTo
 all_goals
  have d2 : (n.fFrom ≤ mi) = ¬ (mi < n.fFrom) := by rw [Int.not_lt]
  have d3 : (n.fTo ≤ mi) = ¬ (mi < n.fTo) := by rw [Int.not_lt]
  (try simp [c1, c2, c3, d2, d3]) <;> (try omega)
theorem cA_days (q : S1079 → Bool) (mi no : Int) (D : List Int) : cA q (D.map (mv mi no)) = ((D.filter fun d => q (mv mi no d)).length : Int) := by
 unfold cA;rw [List.filter_map, List.length_map]; rfl
theorem noise_sum (mi no : Int) : ∀ l : List Int, ((l.map (mv mi no)).map S1079.Noise).sum = (l.length : Int) * no
 | [] => by simp
 | d :: l => by
  rw [List.map_cons, List.map_cons, List.sum_cons, noise_sum mi no l, List.length_cons]
  push_cast
  rw [Int.add_mul, Int.one_mul, Int.add_comm]; rfl
theorem pA_days (q : S1079 → Bool) (mi no : Int) (D : List Int) : pA q (D.map (mv mi no)) = cA q (D.map (mv mi no)) * no := by
 rw [cA_days];unfold pA;rw [List.filter_map, noise_sum]; rfl
set_option maxRecDepth 100000 in
theorem all_in : ∀ w : Fin 7, decide (andI (shrI 127 (w.1 : Int)) 1 = 1) = true := by decide +kernel
theorem inM_127 (d : Int) : inM 127 d = true := by
 have := all_in ⟨((d + 5) % 7).toNat, by omega⟩;unfold inM;rw [show (((((d + 5) % 7).toNat : Nat)) : Int) = (d + 5) % 7 from Int.toNat_of_nonneg (by omega)] at this;exact this
def rot (m : Int) : Int := andI (orI (shlI m 6) (shrI m 1)) 127
set_option maxRecDepth 100000 in
theorem rot_all : ∀ m : Fin 128, ∀ w : Fin 7, (andI (shrI (rot (m.1 : Int)) (((w.1 + 6) % 7 : Nat) : Int)) 1 = 1 ↔ andI (shrI (m.1 : Int) (w.1 : Int)) 1 = 1) ∧ (0 < m.1 → 1 ≤ rot (m.1 : Int) ∧ rot (m.1 : Int) ≤ 127) := by decide +kernel
theorem rot_in {m d : Int} (h1 : 1 ≤ m) (h2 : m ≤ 127) : inM (rot m) (d - 1) = inM m d := by
 have := (rot_all ⟨m.toNat, by omega⟩ ⟨((d + 5) % 7).toNat, by omega⟩).1;simp only at this;rw [Int.toNat_of_nonneg (by omega)] at this
 have e : ((((((d + 5) % 7).toNat + 6) % 7 : Nat)) : Int) = (d - 1 + 5) % 7 := by omega
 rw [e, Int.toNat_of_nonneg (by omega)] at this;unfold inM;exact decide_eq_decide.2 this
theorem rot_rng {m : Int} (h1 : 1 ≤ m) (h2 : m ≤ 127) : 1 ≤ rot m ∧ rot m ≤ 127 := by
 have := (rot_all ⟨m.toNat, by omega⟩ ⟨0, by omega⟩).2 (by simp; omega);simp only at this;rw [Int.toNat_of_nonneg (by omega)] at this;exact this
theorem dayL_shift {m : Int} (h1 : 1 ≤ m) (h2 : m ≤ 127) : ∀ (n : Nat) (f : Int), dayL (rot m) n (f - 1) = (dayL m n f).map (· - 1)
 | 0, f => rfl
 | n + 1, f => by
  unfold dayL;rw [rot_in h1 h2, show f - 1 + 1 = f + 1 - 1 by omega, dayL_shift h1 h2 n (f + 1)]
  split <;> simp
theorem meet_eq {p s : S45} (hp : s102 p = 0) (hs : s102 s = 0) : s2011 p s = ((days p).filter (hasB s.fFrom s.fTo s.Days), 0) := by
 unfold s2011;rw [hp, hs]; rfl
theorem shift_eq {p : S45} (hp : s102 p = 0) (h1 : 1 ≤ p.fFrom) : s2012 p (-1) = (⟨p.fFrom - 1, p.fTo - 1, rot p.Days⟩, 0) := by
 obtain ⟨q1, q2, q3, q4, q5, q6⟩ := period_ok p hp
 have ht : Int.tmod (IntKind.i64.wrap ((Int.tmod (-1) 7) + 7)) 7 = 6 := by decide +kernel
 have ht2 : IntKind.i64.wrap (7 - 6) = 1 := by decide +kernel
 unfold s2012;rw [hp, show s152 [0, s155 (-1) (-99999) 99999] = 0 from rfl, ht, ht2];rw [show p.fFrom + -1 = p.fFrom - 1 by omega, show p.fTo + -1 = p.fTo - 1 by omega, wrap_i64 (n := p.fFrom - 1) (by unfold I64; omega), wrap_i64 (n := p.fTo - 1) (by unfold I64; omega), decide_eq_false (show ¬ p.fFrom - 1 < 0 by omega), decide_eq_false (show ¬ 99999 < p.fTo - 1 by omega)]
 rfl
def sp (s : S67) : S45 := ⟨beg s, nxt s - 1, 127⟩
theorem sun_gap (s : S67) (h : okS s) : nxt s - 1 - beg s ≤ 400 := by
 obtain ⟨y, k⟩ := s;obtain ⟨h1, h2, _⟩ := h;have h1 : 2000 ≤ y := h1;have h2 : y ≤ 2272 := h2;have c1 := sun_rng (N3 y);have c2 := sun_rng (N10 y);have c3 := sun_rng (N3 (y + 1))
 have e0 : (y + 1 - 2000).toNat = (y - 2000).toNat + 1 := by omega
 have e1 : (2000 + ((y - 2000).toNat : Int)) = y := by omega
 have d1 := Dy_next (y - 2000).toNat;rw [e1] at d1;have l1 := lp_rng y;have l2 := lp_rng (y + 1);unfold beg nxt
 by_cases hk : k = kS
 ·rw [if_pos hk, if_pos hk]
  have : N10 y = N3 y + 214 := by unfold N10 N3; omega
  simp only; omega
 ·rw [if_neg hk, if_neg hk]
  have : N3 (y + 1) = N10 y + 151 + lp (y + 1) := by unfold N10 N3; rw [e0, d1]; omega
  simp only; omega
theorem span_ok {s : S67} (h : okS s) : s102 (sp s) = 0 := by
 have b := beg_rng h;have g := sun_gap s h;have l := season_long h;exact s102_mk (p := sp s) b.1 (by show beg s ≤ nxt s - 1; omega) (by show nxt s - 1 ≤ 99999; omega) g (by show (1 : Int) ≤ 127; decide) (by show (127 : Int) ≤ 127; decide)
theorem movs_days {p : S45} (hp : s102 p = 0) (hl : p.fTo - p.fFrom ≤ 60) {mi no : Int} (h0 : 0 ≤ mi) (h1 : mi ≤ 1439) (n0 : 0 ≤ no) (n1 : no ≤ 99) : ((days p).map (mv mi no)).length ≤ 61 ∧ s1027 ((days p).map (mv mi no)) = 0 := by
 obtain ⟨q1, q2, q3, q4, q5, q6⟩ := period_ok p hp
 have hlen : ((days p).map (mv mi no)).length ≤ 61 := by
  rw [List.length_map];have := dayL_len p.Days (p.fTo + 1 - p.fFrom).toNat p.fFrom;unfold days; omega
 refine ⟨hlen, (movs_iff _).2 ⟨by omega, fun y hy => ?_⟩⟩;obtain ⟨d, hd, rfl⟩ := List.mem_map.1 hy;have := dayL_mem hd;unfold s1100;rw [s1085_eq, s89_zero];intro x hx;simp only [List.mem_cons, List.not_mem_nil, or_false] at hx
 rcases hx with rfl | rfl | rfl | rfl | rfl | rfl | rfl
 ·rw [s1098_eq, s96_zero]; show 0 ≤ 1440 * d + mi ∧ 1440 * d + mi ≤ 143999999; omega
 ·rfl
 ·rfl
 ·rfl
 ·rfl
 ·rw [s1088_eq, s90_zero]; exact ⟨n0, n1⟩
 ·show s1086 (!(s147 (⟨#[97]⟩ : ByteArray))) 8 = 0; rw [name_a]; rfl
theorem count_eq {a1 : S1089} {p : S45} (hp : s102 p = 0) (h1 : 1 ≤ p.fFrom) {mi no : Int} (m0 : 0 ≤ mi) (m1 : mi ≤ 1439) (hn : s1051 a1.Night = 0) (hs : okS a1.Season) :
  cA (qn a1) ((days p).map (mv mi no)) = if a1.Night.fTo < a1.Night.fFrom ∧ mi < a1.Night.fTo then (((s2011 ⟨p.fFrom - 1, p.fTo - 1, rot p.Days⟩ (sp a1.Season)).1).length : Int) else if a1.Night.fFrom ≤ mi ∧ (a1.Night.fTo < a1.Night.fFrom ∨ mi < a1.Night.fTo) then (((s2011 p (sp a1.Season)).1).length : Int) else 0 := by
 obtain ⟨q1, q2, q3, q4, q5, q6⟩ := period_ok p hp;have rr := rot_rng q5 q6;have b := beg_rng hs;rw [s1051_zero] at hn;rw [cA_days]
 have hq : ∀ d ∈ days p, 1 ≤ d ∧ d ≤ 99999 := fun d hd => by have := dayL_mem hd; omega
 by_cases c1 : a1.Night.fTo < a1.Night.fFrom ∧ mi < a1.Night.fTo
 ·rw [if_pos c1, meet_eq (s102_mk (p := ⟨p.fFrom - 1, p.fTo - 1, rot p.Days⟩) (by show 0 ≤ p.fFrom - 1; omega) (by show p.fFrom - 1 ≤ p.fTo - 1; omega) (by show p.fTo - 1 ≤ 99999; omega) (by show p.fTo - 1 - (p.fFrom - 1) ≤ 400; omega) rr.1 rr.2) (span_ok hs)]
  have e : days ⟨p.fFrom - 1, p.fTo - 1, rot p.Days⟩ = (days p).map (· - 1) := by
   unfold days;rw [← dayL_shift q5 q6]
   congr 1
   show (p.fTo - 1 + 1 - (p.fFrom - 1)).toNat = _
   congr 1; omega
  rw [e];dsimp only;rw [List.filter_map, List.length_map]
  congr 2
  apply List.filter_congr
  intro d hd;have hd2 := hq d hd;unfold qn;show (decide (beg a1.Season ≤ s1120 a1.Night (1440 * d + mi)) && decide (s1120 a1.Night (1440 * d + mi) ≤ nxt a1.Season - 1)) = ((decide (beg a1.Season ≤ d - 1) && decide (d - 1 ≤ nxt a1.Season - 1)) && inM 127 (d - 1));rw [of_eq _ hd2.1 hd2.2 m0 m1, if_neg (by omega), if_neg (by omega), if_pos c1.2, inM_127, Bool.and_true]
 ·rw [if_neg c1]
  by_cases c2 : a1.Night.fFrom ≤ mi ∧ (a1.Night.fTo < a1.Night.fFrom ∨ mi < a1.Night.fTo)
  ·rw [if_pos c2, meet_eq hp (span_ok hs)]
   congr 2
   apply List.filter_congr
   intro d hd;have hd2 := hq d hd;unfold qn;show (decide (beg a1.Season ≤ s1120 a1.Night (1440 * d + mi)) && decide (s1120 a1.Night (1440 * d + mi) ≤ nxt a1.Season - 1)) = ((decide (beg a1.Season ≤ d) && decide (d ≤ nxt a1.Season - 1)) && inM 127 d)
   have : s1120 a1.Night (1440 * d + mi) = d := by
    rw [of_eq _ hd2.1 hd2.2 m0 m1]
    split
    ·rw [if_pos (by omega)]
    ·rw [if_pos c2.1]
   rw [this, inM_127, Bool.and_true]
  ·rw [if_neg c2]
   have : (days p).filter (fun d => qn a1 (mv mi no d)) = [] := by
    rw [List.filter_eq_nil_iff];intro d hd;have hd2 := hq d hd;unfold qn;show ¬ (decide (beg a1.Season ≤ s1120 a1.Night (1440 * d + mi)) && decide (s1120 a1.Night (1440 * d + mi) ≤ nxt a1.Season - 1)) = true
    have : s1120 a1.Night (1440 * d + mi) = -1 := by
     rw [of_eq _ hd2.1 hd2.2 m0 m1]
     split
     ·rw [if_neg (by omega)]
     ·rw [if_neg (by omega), if_neg (by omega)]
    rw [this]
    simp; omega
   rw [this]; rfl
theorem mod_rng {n m : Int} (hm : 0 < m) (h0 : 0 ≤ n) (h1 : n ≤ 65535) : Int.tmod (IntKind.i64.wrap n) m = n % m ∧ 0 ≤ n % m ∧ n % m < m := by
 rw [wrap_i64 (by unfold I64; omega), Int.tmod_eq_emod_of_nonneg h0];exact ⟨rfl, Int.emod_nonneg _ (by omega), Int.emod_lt_of_pos _ hm⟩
theorem s2003_true (a0 : S45) (a1 : S1089) (a2 : Int × Int) (h0 : 0 ≤ a2.1) (h1 : a2.1 ≤ 65535) (h2 : 0 ≤ a2.2) (h3 : a2.2 ≤ 65535) : s2003 a0 a1 a2 = some true := by
 unfold s2003;rw [quota_eq a1]
 cases hg : ((((decide ((s40 a0) ≠ 0)) || (decide (60 < IntKind.i64.wrap (a0.fTo - a0.fFrom)))) || (decide (a0.fFrom = 0))) || (decide (1 < (ByteArray.size a1.Season.Kind : Int)))) || (decide ((s1047 a1) ≠ 0)) with
 | true => rw [cond_true, s2006_eq]
 | false =>
  rw [cond_false];simp only [Bool.or_eq_false_iff, decide_eq_false_iff_not, Decidable.not_not] at hg;obtain ⟨⟨⟨⟨g1, g2⟩, g3⟩, _⟩, g5⟩ := hg;rw [← period_eq] at g1;obtain ⟨q1, q2, q3, q4, q5, q6⟩ := period_ok a0 g1;rw [wrap_i64 (by unfold I64; omega)] at g2;obtain ⟨hn, hs, _, _⟩ := quota_in g5;obtain ⟨e1, m0, m1⟩ := mod_rng (m := 1440) (by decide) h0 h1;obtain ⟨e2, n0, n1⟩ := mod_rng (m := 100) (by decide) h2 h3;unfold s2003_j2 s2003_j1;rw [e1, e2];generalize a2.1 % 1440 = mi at *;generalize a2.2 % 100 = no at *;have e3 : s2007 (S115.mk (⟨#[97]⟩) ByteArray.empty (⟨#[68]⟩) ByteArray.empty ByteArray.empty ByteArray.empty (S45.mk a0.fFrom a0.fTo a0.Days) mi 9 1 no) = ((days a0).map (mv mi no), 0) := s2007_ok g1 m0 (by omega) n0 (by omega);obtain ⟨k1, k2⟩ := movs_days g1 (by omega) m0 (show mi ≤ 1439 by omega) n0 (show no ≤ 99 by omega);rw [e3, s70_ok hs];simp only [bindO];rw [movs_eq, k2, decide_eq_false (show ¬ 61 < (((days a0).map (mv mi no)).length : Int) by omega)];simp only [show IntKind.i64.wrap (0 + 0) = 0 from rfl, ne_eq, not_true_eq_false, decide_false, Bool.or_false, cond_false];rw [used_long g5 k2];simp only [bindO, ne_eq, not_true_eq_false, decide_false, cond_false];have hc := count_eq (no := no) g1 (by omega) m0 (show mi ≤ 1439 by omega) hn hs;rw [pA_days]
  have hle : 0 ≤ cA (qn a1) ((days a0).map (mv mi no)) ∧ cA (qn a1) ((days a0).map (mv mi no)) ≤ 61 := by
   unfold cA;have := len_filter (qn a1) ((days a0).map (mv mi no))
   omega
  have hmul : IntKind.i64.wrap (cA (qn a1) ((days a0).map (mv mi no)) * no) = cA (qn a1) ((days a0).map (mv mi no)) * no := by
   apply wrap_i64
   have a : 0 ≤ cA (qn a1) ((days a0).map (mv mi no)) * no := Int.mul_nonneg hle.1 n0;have b : cA (qn a1) ((days a0).map (mv mi no)) * no ≤ 61 * 100 := Int.mul_le_mul hle.2 (by omega) n0 (by decide);unfold I64; omega
  have hfin : ∀ x : Int, cA (qn a1) ((days a0).map (mv mi no)) = x → (some ((eqAnd [decide (cA (qn a1) ((days a0).map (mv mi no)) = x), decide (cA (qn a1) ((days a0).map (mv mi no)) * no = IntKind.i64.wrap (x * no))]) && s2006) : Option Bool) = some true := by
   intro x hx;rw [← hx, hmul, s2006_eq]
   simp [eqAnd]
  have hs2 : s2011 a0 ⟨beg a1.Season, nxt a1.Season - 1, 127⟩ = s2011 a0 (sp a1.Season) := rfl;rw [hs2, shift_eq g1 (by omega), meet_eq g1 (span_ok hs)];rw [meet_eq g1 (span_ok hs)] at hc;have rr := rot_rng q5 q6;have hs3 : s2011 ⟨a0.fFrom - 1, a0.fTo - 1, rot a0.Days⟩ ⟨beg a1.Season, nxt a1.Season - 1, 127⟩ = s2011 ⟨a0.fFrom - 1, a0.fTo - 1, rot a0.Days⟩ (sp a1.Season) := rfl
  have hz : (s2011 ⟨a0.fFrom - 1, a0.fTo - 1, rot a0.Days⟩ (sp a1.Season)).2 = 0 := by
   rw [meet_eq (s102_mk (p := ⟨a0.fFrom - 1, a0.fTo - 1, rot a0.Days⟩) (by show 0 ≤ a0.fFrom - 1; omega) (by show a0.fFrom - 1 ≤ a0.fTo - 1; omega) (by show a0.fTo - 1 ≤ 99999; omega) (by show a0.fTo - 1 - (a0.fFrom - 1) ≤ 400; omega) rr.1 rr.2) (span_ok hs)]
  simp only [hs3, hz, ne_eq, not_true_eq_false, decide_false, cond_false];rw [s1051_zero] at hn
  by_cases c1 : a1.Night.fTo < a1.Night.fFrom ∧ mi < a1.Night.fTo
  ·rw [if_pos c1] at hc
   have c3 : ((decide (a1.Night.fFrom ≤ mi)) && ((decide (a1.Night.fTo < a1.Night.fFrom)) || (decide (mi < a1.Night.fTo)))) = false := by
    rw [decide_eq_false (show ¬ a1.Night.fFrom ≤ mi by omega)]; rfl
   have c4 : ((decide (a1.Night.fTo < a1.Night.fFrom)) && (decide (mi < a1.Night.fTo))) = true := by simp [c1.1, c1.2]
   simp only [c3, c4, cond_true, cond_false];exact hfin _ hc
  ·rw [if_neg c1] at hc
   have c4 : ((decide (a1.Night.fTo < a1.Night.fFrom)) && (decide (mi < a1.Night.fTo))) = false := by
    rw [Bool.and_eq_false_iff, decide_eq_false_iff_not, decide_eq_false_iff_not]; omega
   by_cases c2 : a1.Night.fFrom ≤ mi ∧ (a1.Night.fTo < a1.Night.fFrom ∨ mi < a1.Night.fTo)
   ·rw [if_pos c2] at hc
    have c3 : ((decide (a1.Night.fFrom ≤ mi)) && ((decide (a1.Night.fTo < a1.Night.fFrom)) || (decide (mi < a1.Night.fTo)))) = true := by
     simpa using c2
    simp only [c3, c4, cond_true, cond_false];exact hfin _ hc
   ·rw [if_neg c2] at hc
    have c3 : ((decide (a1.Night.fFrom ≤ mi)) && ((decide (a1.Night.fTo < a1.Night.fFrom)) || (decide (mi < a1.Night.fTo)))) = false := by
     have : ¬ (a1.Night.fFrom ≤ mi ∧ (a1.Night.fTo < a1.Night.fFrom ∨ mi < a1.Night.fTo)) := c2;rw [← Bool.not_eq_true]
     simpa using this
    simp only [c3, c4, cond_false];exact hfin _ hc
end Go.Sim
