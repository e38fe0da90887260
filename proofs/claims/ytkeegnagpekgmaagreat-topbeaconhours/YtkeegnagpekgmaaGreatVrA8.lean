/-
  What is proved: lemmas and contracts of functions on the way to the law topBeaconHours (part 8).
-/
import Derived.Test.YtkeegnagpekgmaaGreatVrA5
import Derived.Test.YtkeegnagpekgmaaGreatVrA3
import Derived.Test.YtkeegnagpekgmaaGreatVrA7
import Derived.Test.YtkeegnagpekgmaaGreatVrA6
import Derived.DeepKeys4
import Derived.Scope
set_option linter.unusedSectionVars false
set_option linter.unusedSimpArgs false
set_option linter.unusedVariables false
set_option linter.unnecessarySimpa false
set_option linter.deprecated false
namespace Go.Sim
section
variable {E : Env} {w0 : World} {M0 : Nat → Prop}
def ConT (E : Env) (f : FuncId) (args : List TV) (e : TypeId) (k : Nat) (xs xs' : List (List G)) (n : Nat) : Prop :=
 ∀ w M ρ (vs : List Value), (∀ b, M b → b < w.heap.size) → GlOk E w (owned M ρ) → (∀ id x, ρ id = some x → ∃ blk, lookO [(0, Blk.arr e k xs)] id = some blk) →
  (∀ id ow, ρ id = some (some ow) → ow.b < w.heap.size ∧ ¬ M ow.b) → (∀ id id' ow ow', ρ id = some (some ow) → ρ id' = some (some ow') → ow.b = ow'.b → id = id') →
  (∀ id blk, lookO [(0, Blk.arr e k xs)] id = some blk → BRel w (owned M ρ) ρ id blk) → ArgsT w (owned M ρ) ρ args vs →
  Calls E.P f vs.toArray w fun ex w' => ∃ v, ex = .returned v ∧ BelowX (fun b => ∃ id ow, ρ id = some (some ow) ∧ ow.b = b) w w' ∧ BRel w' (owned M ρ) ρ 0 (.arr e k xs') ∧ TRel w' (owned M ρ) ρ (.osl 0 k 0 n) v
theorem ConT.lend {f : FuncId} {args : List TV} {e : TypeId} {k n : Nat} {xs xs' : List (List G)} {mem : Mem} {x : Nat → Option Own} (h : ConT E f args e k xs xs' n) : ConT (E.lend mem x) f args e k xs xs' n := h
def DoneT (fn : Func) (e : TypeId) (k : Nat) (xs' : List (List G)) (n : Nat) : Exit → ASt → Prop
 | .ret, s | .normal, s => (∃ t, fn.results = #[.tmp t] ∧ s.get t = .osl 0 k 0 n) ∧ MemL s [(0, .arr e k xs')]
 | _, _ => False
theorem conT_of_aw {f : FuncId} {fn : Func} {c : Code} {args : List TV} {e : TypeId} {k n : Nat} {xs xs' : List (List G)} (hf : E.P.funcs[f]? = some fn) (hb : fn.body = some c) (hn0 : Nat.ble args.length fn.ntmps = true)
  (h : ∀ w0 M0 x, AWp (E.lend [(0, .arr e k xs)] x) w0 M0 c (DoneT fn e k xs' n) ⟨fn.ntmps, initTV args, [(0, .arr e k xs)]⟩) (hrn : E.rnd = none := by rfl) (hdf : E.mks = false := by rfl) : ConT E f args e k xs xs' n := by
 intro w M ρ vs hM hgl hdom hown hinj hblk hv;have hn := Nat.le_of_ble_eq_true hn0;have hlen := hv.length
 let x : Nat → Option Own := fun id => (ρ id).getD none
 have hx : ∀ id y, ρ id = some y → x id = y := fun id y h => by simp only [x, h, Option.getD_some]
 have hlive : ∀ p ∈ [((0 : Nat), Blk.arr e k xs)], p.2.live = true := by
  intro p hp; rw [List.mem_singleton.1 hp]; rfl
 have hkeep : ∀ id y, lookO (E.lend [(0, .arr e k xs)] x).bow id = some y → ρ id = some y := by
  intro id y h;obtain ⟨⟨b, h1⟩, rfl⟩ := (lookO_mapk x).1 h;obtain ⟨z, hz⟩ := (hblk id b h1).has (hlive _ (lookO_mem _ h1));rw [hx id z hz]; exact hz
 have hback : ∀ id y, ρ id = some y → lookO (E.lend [(0, .arr e k xs)] x).bow id = some y := fun id y h => (lookO_mapk x).2 ⟨hdom id y h, (hx id y h).symm⟩;refine calls_of_wp hf hb ?_
 have ha : ARel (E.lend [(0, .arr e k xs)] x) w M ⟨fn.ntmps, initTV args, [(0, .arr e k xs)]⟩ { tmps := vs.toArray ++ Array.replicate (fn.ntmps - vs.toArray.size) undef, defers := [] } w := by
  refine ⟨fun _ => rfl, ?_, ρ, ?_, Marks.nil, ?_⟩
  ·simp; omega
  ·exact ⟨BelowX.refl _ w, hM, hgl, hdom, fun id ow ho => ⟨.inr ⟨id, ow, hback id _ ho, rfl⟩, (hown id ow ho).1⟩, hinj, hkeep, fun b ⟨id, ow, h1, h2⟩ => h2 ▸ (hown id ow (hkeep id _ h1)).2, hblk⟩
  ·intro i;have := initTV_rel (fn.ntmps - vs.length) hv i;show TRel _ _ _ (initTV args i) _;rw [Array.getD_eq_getD_getElem?];rw [show (vs.toArray ++ Array.replicate (fn.ntmps - vs.toArray.size) undef) = (vs ++ List.replicate (fn.ntmps - vs.length) undef).toArray by simp];rw [List.getElem?_toArray];exact this
 refine wp_mono (wp_env (E := E.lend [(0, .arr e k xs)] x) (h w M x _ w ha) hrn) ?_;rintro ex a' w' ⟨s', ha', hq⟩
 have fin : ((∃ t, fn.results = #[.tmp t] ∧ s'.get t = .osl 0 k 0 n) ∧ MemL s' [(0, .arr e k xs')]) → a'.defers = [] ∧ ∃ v, (results fn a'.tmps).run E.P w' = .ok v w' ∧ (∃ u, Ending.returned v = .returned u ∧ BelowX (fun b => ∃ id ow, ρ id = some (some ow) ∧ ow.b = b) w w' ∧ BRel w' (owned M ρ) ρ 0 (.arr e k xs') ∧ TRel w' (owned M ρ) ρ (.osl 0 k 0 n) u) := by
  rintro ⟨⟨t, hr, hq⟩, hm'⟩;obtain ⟨ρf, hm, _, ht⟩ := ha'.ex
  have hres : (results fn a'.tmps).run E.P w' = .ok (a'.tmps.getD t undef) w' := by
   rw [results_eq, hr]
   simp [rvSem]
  have hsub : ∀ b, owned M ρ b → owned M ρf b := by
   rintro b (h | ⟨id, o, h, rfl⟩)
   ·exact .inl h
   ·exact .inr ⟨id, o, hm.keep id _ (hback id _ h), rfl⟩
  obtain ⟨z, hz⟩ := (hblk 0 (.arr e k xs) rfl).has rfl
  have hρ0 : ρ 0 = ρf 0 := by rw [hz, hm.keep 0 z (hback 0 z hz)]
  refine ⟨ha'.defers hdf, _, hres, _, rfl, hm.below.mono (fun b ⟨id, ow, h3, h4⟩ => ⟨id, ow, hkeep id _ h3, h4⟩), BRel.ground rfl hρ0 ((hm.blk 0 _ (memL_mem hm' List.mem_cons_self)).sub hsub), ?_⟩;have h1 := ht t;rw [hq] at h1
  rcases h1 with ⟨g1, g2⟩ | ⟨ow, g1, g2⟩
  ·exact .inl ⟨hρ0.trans g1, g2⟩
  ·exact .inr ⟨ow, hρ0.trans g1, g2⟩
 cases ex with
 | ret => exact fin hq
 | normal => exact fin hq
 | _ => exact hq.elim
theorem eff_turn {o : Oper} {mem : Mem} {ev : Operand → TV} {f : FuncId} {aps : Array Operand} {ts : Array TypeId} {args : List TV} {e : TypeId} {k n : Nat} {xs xs' : List (List G)} (c : Nat) (ho : o.op = .call ⟨.value (.func f), aps, ts⟩)
  (hk : Known E.P f) (hev : ev (.func f) = .g (.lit (.func (.func f) #[] #[]))) (hc : ConT E f args e k xs xs' n) (ha : aps.toList.map (fun x => some (ev x)) = args.map (renT [(0, c)])) (hl : lookO mem c = some (.arr e k xs))
  (hrefs : ∀ i blk, lookO mem i = some blk → i ≠ c → blk.noref (some c) = true) (hn : n ≤ xs'.length) (hbw : lookO E.bow c = none := by rfl) :
  EffW E o mem ev (.osl c k 0 n) ((c, .arr e k (xs'.take n)) :: mem) (some c) := by
 intro w0 M0 ρ w e' hm hx;obtain ⟨fn, h1, h2, h3⟩ := hk
 have hef : e' (.func f) = .func (.func f) #[] #[] := by
  have := hx (.func f) (by rw [ho]; simp [Op.operands, Call.operands]);rw [hev] at this;exact this
 have hres : (execOp e' o).run E.P w = .ok (.enter f (aps.toList.map e').toArray) w := by
  simp [execOp, ho, resolve, hef, Deferred.ofValue, invoke, run_callFunc h1 h2 h3, ← Array.toList_map]
 rw [hres]
 let ρc : Rho := fun p => if p = 0 then ρ c else none
 have hρ0 : ρc 0 = ρ c := by simp [ρc]
 have hρc' : ∀ p x, ρc p = some x → p = 0 ∧ ρ c = some x := by
  intro p x h;simp only [ρc] at h
  split at h
  ·exact ⟨by assumption, h⟩
  ·cases h
 let M : Nat → Prop := fun b => owned M0 ρ b ∧ ¬ ∃ ow, ρ c = some (some ow) ∧ ow.b = b
 have hown : owned M ρc = owned M0 ρ := by
  funext b
  apply propext
  constructor
  ·rintro (h | ⟨p, o, h, rfl⟩)
   ·exact h.1
   ·exact .inr ⟨c, o, (hρc' p _ h).2, rfl⟩
  ·intro h
   by_cases hb : ∃ ow, ρ c = some (some ow) ∧ ow.b = b
   ·obtain ⟨ow, h1, h2⟩ := hb; exact .inr ⟨0, ow, hρ0.trans h1, h2⟩
   ·exact .inl ⟨h, hb⟩
 have hcall := hc w M ρc (aps.toList.map e') (fun b h => hm.lt b h.1) (by rw [hown]; exact hm.glob)
  (fun p x h => by
   have := (hρc' p x h).1;subst this
   exact ⟨_, rfl⟩)
  (fun p ow h => by
   have c2 := (hρc' p _ h).2
   exact ⟨(hm.fresh c ow c2).2, fun hM => hM.2 ⟨ow, c2, rfl⟩⟩)
  (fun p q ow ow' h1 h2 _ => (hρc' p _ h1).1.trans (hρc' q _ h2).1.symm)
  (fun p blk h => by
   have hp : p = 0 := by
    by_cases hp : p = 0
    ·exact hp
    ·have : lookO [((0 : Nat), Blk.arr e k xs)] p = none := by
      simp only [lookO];rw [show Nat.beq 0 p = false from by cases p with | zero => exact absurd rfl hp | succ _ => rfl]
      rfl
     rw [this] at h; cases h
   subst hp
   have hb : blk = .arr e k xs := by simpa [lookO] using h.symm
   subst hb;rw [hown]
   exact BRel.ground rfl hρ0 (hm.blk c _ hl))
  (by
   rw [hown];refine args_ren (σ := [(0, c)]) (ρc := ρc) (fun p q hpq => ?_) (fun x hx' => hx x (by rw [ho]; simp [Op.operands, Call.operands]; exact .inr (by simpa using hx'))) ha
   by_cases hp : p = 0
   ·subst hp
    have : c = q := by simpa [lookO] using hpq
    rw [← this]; exact hρ0
   ·have : lookO [((0 : Nat), c)] p = none := by
     simp only [lookO];rw [show Nat.beq 0 p = false from by cases p with | zero => exact absurd rfl hp | succ _ => rfl]
     rfl
    rw [this] at hpq; cases hpq)
 rw [hown] at hcall;refine hcall.mono ?_;rintro ex w' ⟨v, rfl, hb, hblk, hr⟩
 have hlow : ∀ b, b < w.heap.size → ¬ owned M0 ρ b → w'.heap[b]? = w.heap[b]? := fun b hlt hno => hb.block b hlt (by
  rintro ⟨p, ow, h1, rfl⟩
  exact hno (.inr ⟨c, ow, (hρc' p _ h1).2, rfl⟩))
 have hne : ∀ id b, lookO ((c, Blk.arr e k (xs'.take n)) :: mem) id = some b → (id = c ∧ b = .arr e k (xs'.take n)) ∨ (id ≠ c ∧ lookO mem id = some b) := by
  intro id b h;simp only [lookO] at h
  cases hbq : Nat.beq c id with
  | true =>
   rw [hbq] at h;exact .inl ⟨(Nat.eq_of_beq_eq_true hbq).symm, by simpa using h.symm⟩
  | false =>
   rw [hbq] at h;refine .inr ⟨fun e => ?_, h⟩;rw [e, Nat.beq_refl] at hbq; cases hbq
 refine ⟨v, rfl, ρ, ⟨?_, hm.m0, hm.glob.grow hb.size hlow, ?_, ?_, hm.inj, hm.keep, hm.lentM, ?_⟩, fun tv u hn' h => h.mono (some c) hn' hlow (fun _ _ h => h) (fun _ _ _ => rfl), ?_⟩
 ·refine ⟨hb.os.trans hm.below.os, hb.tape.trans hm.below.tape, hb.output.trans hm.below.output, Nat.le_trans hm.below.size hb.size, fun kk hkk hlk => ?_⟩;refine (hb.block kk (Nat.lt_of_lt_of_le hkk hm.below.size) ?_).trans (hm.below.block kk hkk hlk);rintro ⟨p, ow, h1, rfl⟩
  rcases (hm.fresh c ow (hρc' p _ h1).2).1 with h | h
  ·omega
  ·exact hlk h
 ·intro id x h;obtain ⟨b, hb⟩ := hm.dom id x h
  cases hbq : Nat.beq c id with
  | true => exact ⟨_, by simp only [lookO, hbq]; rfl⟩
  | false => exact ⟨b, by simp only [lookO, hbq]; exact hb⟩
 ·exact fun id ow h => ⟨(hm.fresh id ow h).1, Nat.lt_of_lt_of_le (hm.fresh id ow h).2 hb.size⟩
 ·intro id blk h
  rcases hne id blk h with ⟨rfl, rfl⟩ | ⟨h1, h2⟩
  ·rcases hblk with ⟨k1, k2⟩ | ⟨ow', vs', k1, k2, k3, k4, k5, k6, k7⟩
   ·refine .inl ⟨hρ0.symm.trans k1, ?_⟩;have h0 : xs' = [] := k2;rw [h0]; simp
   ·refine .inr ⟨ow', vs', hρ0.symm.trans k1, k2, ?_, k4, k5, fun cc hcc => k6 cc (List.mem_of_mem_take hcc), ?_⟩
    ·rw [List.length_take]; omega
    ·have hfl : (xs'.take n).flatten = xs'.flatten.take (n * k) := (flatten_take (k := k) n k6).symm
     have hlen : (xs'.take n).length = n := by rw [List.length_take]; omega
     rw [hfl, hlen];have h5 := k7.take (n * k);rw [List.take_take, Nat.min_eq_left (Nat.mul_le_mul_right k hn)] at h5;exact h5
  ·refine (hm.blk id blk h2).mono (some c) (fun e => h1 (Option.some.inj e)) (hrefs id blk h2 h1) (fun ow ho => ?_) hlow (fun _ _ h => h) (fun _ _ _ => rfl);refine hb.block ow.b (hm.fresh id ow ho).2 ?_;rintro ⟨p, ow2, g1, g2⟩;exact h1 (hm.inj c id ow2 ow (hρc' p _ g1).2 ho g2).symm
 ·rcases hr with ⟨g1, g2⟩ | ⟨ow, g1, g2⟩
  ·exact .inl ⟨hρ0.symm.trans g1, g2⟩
  ·exact .inr ⟨ow, hρ0.symm.trans g1, g2⟩
theorem take_len {α : Type} {n : Nat} {l : List α} (h : n ≤ l.length) : (List.take n l).length = n := by rw [List.length_take]; omega
theorem eff_turnL {α : Type} {f0 : α → List G} {l l' : List α} {o : Oper} {mem : Mem} {ev : Operand → TV} {f : FuncId} {aps : Array Operand} {ts : Array TypeId} {args : List TV} {e : TypeId} {k n : Nat} (c : Nat) (ho : o.op = .call ⟨.value (.func f), aps, ts⟩)
  (hk : Known E.P f) (hev : ev (.func f) = .g (.lit (.func (.func f) #[] #[]))) (hc : ConT E f args e k (l.map f0) (l'.map f0) n) (ha : aps.toList.map (fun x => some (ev x)) = args.map (renT [(0, c)])) (hl : lookO mem c = some (.arr e k (l.map f0)))
  (hrefs : ∀ i blk, lookO mem i = some blk → i ≠ c → blk.noref (some c) = true) (hn : n ≤ l'.length) (hbw : lookO E.bow c = none := by rfl) :
  EffW E o mem ev (.osl c k 0 n) ((c, .arr e k ((l'.take n).map f0)) :: mem) (some c) := by
 rw [List.map_take];exact eff_turn c ho hk hev hc ha hl hrefs (by rw [List.length_map]; exact hn) hbw
end
section
variable {E : Env} {w0 : World} {M0 : Nat → Prop}
theorem eff_clearO {α : Type} {f0 : α → List G} {l : List α} {o : Oper} {mem : Mem} {ev : Operand → TV} {t el e : TypeId} {x : Operand} {k id N a : Nat} {zs : List Value} (ho : o.op = .call ⟨.builtin .clear, #[x], #[t]⟩) (ht : E.P.underlying t = some (.slice el)) (hz : zeroK E.P el = some zs)
  (hx : ev x = .osl id k a N) (hN : l.length = N) (hb : lookO mem id = some (.arr e k (l.map f0))) (hk : zs.length = k) (h1 : zs.all Value.oneCell' = true) : EffW E o mem ev (.g (.tup [])) ((id, .arr e k ((l.take a).map f0)) :: mem) none := by
 intro w0 M0 ρ w e' hm he;have hv := he x (by rw [ho]; simp [Op.operands, Call.operands]);rw [hx] at hv;obtain ⟨i, z, hi, hz', hzs⟩ := Go.Ex.zeroK_spec hz
 rcases hm.blk id _ hb with ⟨g1, g2⟩ | ⟨ow, cur, g1, g2, g3, g4, g5, g6, g7⟩
 ·have hl0 : l = [] := by simpa using g2
  subst hl0
  have hex : e' x = .slice none 0 0 := by
   rcases hv with ⟨_, _, _, h⟩ | ⟨ow, h, _⟩
   ·exact h
   ·rw [g1] at h; cases h
  have hrun : (execOp e' o).run E.P w = .ok (.value (.tuple #[])) w := by
   simp [execOp, ho, resolve, invoke, builtin, Builtin.clear_, hex, run_underlying ht]
  rw [hrun];obtain ⟨k1, k2⟩ := mrel_upd (id := id) (x := none) (blk' := .arr e k ((([] : List α).take a).map f0)) none hm ⟨rfl, rfl, rfl, Nat.le_refl _, fun _ _ _ => rfl⟩ (fun _ h => by cases h) (.inr ⟨rfl, .inr g1⟩) (fun _ b _ _ => noref_none b) (.inl rfl) (.inl ⟨rhoSet_same _ _ _, by simp⟩);exact ⟨_, k1, k2, ⟨[], rfl, trivial⟩⟩
 ·rw [List.length_map] at g3 g7
  have hcv : ∃ p, e' x = .slice (some ⟨ow.b, p, none⟩) (N - a) (ow.cap - a) ∧ a ≤ N ∧ N ≤ ow.cap ∧ (a < ow.cap → p = ow.o + a * k) := by
   rcases hv with ⟨h, _⟩ | ⟨ow', h, h2, h3, p, h4, h5⟩
   ·rw [g1] at h; cases h
   ·have : ow' = ow := by rw [g1] at h; simpa using h.symm
    subst this;exact ⟨p, h4, h2, h3, h5⟩
  obtain ⟨p, hex, haN, hNc, hp⟩ := hcv
  have hstore : ∃ w' cur', (execOp e' o).run E.P w = .ok (.value (.tuple #[])) w' ∧ w'.heap[ow.b]? = some (.cells cur' e (0, 0)) ∧ cur'.size = cur.size ∧ ((cur'.toList.drop ow.o).take (a * k) = (cur.toList.drop ow.o).take (a * k)) ∧ (∀ b, b ≠ ow.b → w'.heap[b]? = w.heap[b]?) ∧ w'.heap.size = w.heap.size ∧ w'.os = w.os ∧ w'.tape = w.tape ∧ w'.output = w.output := by
   by_cases hz0 : N - a = 0
   ·refine ⟨w, cur, ?_, g2, rfl, rfl, fun _ _ => rfl, rfl, rfl, rfl, rfl⟩;rw [hz0] at hex
    simp [execOp, ho, resolve, invoke, builtin, Builtin.clear_, hex, run_underlying ht]
   ·have hp := hp (by omega);subst hp;have hcap := g5.resolve_left (by omega)
    have hzsz : z.cells.size = k := by rw [← Array.length_toList, hzs, hk]
    let cs := (Builtin.zeroCells z.cells (N - a)).toList
    have hcs : cs = (List.replicate (N - a) zs).flatten := by
     show (Builtin.zeroCells z.cells (N - a)).toList = _;rw [← hzs, ← Go.Ex.zeros_list hzsz (N - a)]
     simp [Builtin.zeroCells, hzsz]
    have hclen : cs.length = (N - a) * k := by rw [hcs]; simp [hk]
    have hone : ∀ u ∈ cs, u.oneCell' = true := by
     intro u hu;rw [hcs] at hu;obtain ⟨c, hc, hu⟩ := List.mem_flatten.1 hu;rw [(List.mem_replicate.1 hc).2] at hu;exact List.all_eq_true.1 h1 u hu
    have hmul : a * k + (N - a) * k = N * k := by rw [← Nat.add_mul]; congr 1; omega
    have hNk : N * k ≤ ow.cap * k := Nat.mul_le_mul_right _ hNc;obtain ⟨w', cur', r1, r2, r3, r4, r5, r6, r7, r8⟩ := run_storeCells (P := E.P) ow.b (ow.o + a * k) e cs 0 cur w g2 (by omega) hone;refine ⟨w', cur', ?_, r2, ?_, ?_, r4, r5, r6, r7, r8⟩
    ·obtain ⟨m, hm0⟩ : ∃ m, N - a = m + 1 := ⟨N - a - 1, by omega⟩;have hrz := Go.Ex.run_zeroValue (P := E.P) (w := w) hi hz';rw [hm0] at hex
     have hcs2 : (Builtin.zeroCells z.cells (m + 1)).toList = cs := by simp only [cs, hm0]
     simp [execOp, ho, resolve, invoke, builtin, Builtin.clear_, hex, run_underlying ht, hrz, hcs2, r1]
    ·rw [← Array.length_toList, r3, ← Array.length_toList (xs := cur)];simp only [setAt, List.length_append, List.length_take, List.length_drop, Array.length_toList]
     omega
    ·rw [r3, Nat.add_zero];simp only [setAt];rw [List.append_assoc, List.drop_append_of_le_length (by simp; omega), List.take_append_of_le_length (by simp; omega), List.drop_take, List.take_take]
     congr 1; omega
  obtain ⟨w', cur', hrun, r2, rsz, r3, r4, r5, r6, r7, r8⟩ := hstore;rw [hrun];have hdf : Diff ρ id w w' := ⟨r6, r7, r8, by omega, fun b _ hne => r4 b (hne ow g1)⟩
  have hM : ∀ b, b < w.heap.size → owned M0 (rhoSet ρ id (some ow)) b → owned M0 ρ b := by
   rintro b hb (h | ⟨i, o, h, rfl⟩)
   ·exact .inl h
   ·by_cases hi : i = id
    ·subst hi; rw [rhoSet_same] at h; cases h; exact .inr ⟨i, ow, g1, rfl⟩
    ·exact .inr ⟨i, o, by simpa [rhoSet, hi] using h, rfl⟩
  have hh : ∀ b, b < w.heap.size → ¬ owned M0 ρ b → w'.heap[b]? = w.heap[b]? := fun b _ hno => r4 b fun he => hno (.inr ⟨id, ow, g1, he.symm⟩);have hkm : ∀ c ∈ l.map f0, c.length = k := g6
  have hta : (l.take a).length = a := by rw [List.length_take]; omega
  have hfl : ((l.take a).map f0).flatten = (l.map f0).flatten.take (a * k) := by rw [List.map_take]; exact (flatten_take (k := k) a hkm).symm
  obtain ⟨k1, k2⟩ := mrel_upd (id := id) (x := some ow) (blk' := .arr e k ((l.take a).map f0)) none hm hdf (fun o ho => by cases ho; exact ⟨.inr ⟨ow, g1, rfl⟩, by rw [r5]; exact (hm.fresh id ow g1).2⟩) (.inr ⟨rfl, .inr g1⟩) (fun _ b _ _ => noref_none b) (.inl rfl)
   (.inr ⟨ow, cur', rhoSet_same _ _ _, r2, by rw [List.length_map, hta]; omega, g4, g5.imp (fun h => h) (fun h => by rw [rsz]; exact h), fun c hc => by
     rw [List.map_take] at hc; exact hkm c (List.mem_of_mem_take hc), by
     rw [List.length_map, hta, r3, hfl];have h5 := g7.take (a * k);rw [List.take_take, Nat.min_eq_left (Nat.mul_le_mul_right k (by omega))] at h5
     exact h5.mono hh hM⟩)
  exact ⟨_, k1, k2, ⟨[], rfl, trivial⟩⟩
end
end Go.Sim
set_option maxRecDepth 10000
namespace Go.Sim
open Go.Proofs
def s1172_l1 (a1 : S1079 → Bool) : List S1079 → Nat → Int
 | [], k2 => (-1)
 | y3 :: t4, k2 => (bif (a1 y3) then ((k2 : Nat) : Int) else s1172_l1 a1 t4 (k2 + 1))
def s1172 (a0 : List S1079) (a1 : S1079 → Bool) : Int :=
 s1172_l1 a1 a0 0
theorem c1172 {g : List (Nat × List Value)} (a0 : List S1079) (a1 : S1079 → Bool) {ca1 : G} {ia1 : FuncId} {ka1 : List G} (ha1 : FnIs ca1 ia1 ka1) (Ka1 : Known Tryz.prog ia1) (Ha1 : ∀ (x0 : S1079), Con (EG g) ia1 ([G.agg [G.int x0.Moment, G.str x0.Kind, G.str x0.Terminal, G.int x0.Seats, G.int x0.Size, G.int x0.Noise, G.str x0.Name]] ++ ka1) (G.bool (a1 x0)))   : Con (EG g) 141 [G.sl 7 (List.map S1079.c a0), ca1] (G.int (s1172 a0 a1)) := by
 generalize hR : s1172 a0 a1 = R;unfold s1172 at hR;refine con_of_aw Tryz.func141 rfl rfl fun w0 M0 => ?_;refine len_sl (f := S1079.c) (l := a0) 0 rfl fun hla0 => ?_;refine aw_seq ?_;refine aw_region [.p] ?_;refine st rfl rfl (eff_assigng rfl rfl) rfl ?_;refine st_nil ?_;refine aw_seq ?_;refine aw_seq ?_;refine aw_region [.p, .p, .p] ?_;refine st rfl rfl (eff_moveg rfl rfl) rfl ?_;refine st rfl rfl (eff_lenM (f := S1079.c) (l := a0) rfl Tryz.underlying25 rfl) rfl ?_;refine st rfl rfl (eff_moveg rfl rfl) rfl ?_;refine st_nil ?_;refine aw_block ?_;refine aw_loop_g (γ := Nat × (List S1079)) (fun g => ([(0, .g (G.sl 7 (List.map S1079.c a0))), (1, .g (ca1)), (7, .g (G.int (List.length a0 : Int))), (8, .g (G.int ((g.1 : Nat) : Int)))], [])) (fun g => a0.drop g.1 = g.2 ∧ s1172_l1 a1 g.2 g.1 = R) (fun g => List.length g.2) ⟨rfl, (0, a0), ⟨rfl, rfl, rfl, rfl, trivial⟩, trivial, rfl, ⟨rfl, hR⟩, trivial⟩ ?_
 ·rintro ⟨k2, t4⟩ ⟨hd, hR⟩;replace hd : a0.drop k2 = t4 := hd;replace hR : s1172_l1 a1 t4 k2 = R := hR;refine aw_seq ?_;refine aw_region [.p] ?_;refine st rfl rfl (eff_lss rfl rfl rfl) rfl ?_;refine st_nil ?_;refine len_sl (f := S1079.c) (l := a0) 0 rfl fun hlz1 => ?_;refine aw_seq ?_;refine aw_cond _ rfl (fun h1 => ?_) (fun h1 => ?_)
  ·replace h1 : (decide (((k2 : Nat) : Int) < (List.length a0 : Int))) = true := h1;obtain ⟨y3, t4, rfl, hx1, hd⟩ := drop_cons hd (decT h1);replace h1 := decT h1;rw [s1172_l1] at hR;(try dsimp only at hR);refine aw_skip ?_;refine aw_seq ?_;refine aw_block ?_;refine aw_seq ?_;refine aw_region [.p, .p] ?_;refine st rfl rfl (eff_moveg rfl rfl) rfl ?_;refine st rfl rfl (eff_assigng rfl rfl) rfl ?_;refine st_nil ?_;refine aw_seq ?_;refine aw_region [.p, .p, .p, .p, .p, .p] ?_;refine st rfl rfl (eff_moveg rfl rfl) rfl ?_;refine st rfl rfl (eff_moveg rfl rfl) rfl ?_;refine st rfl rfl (eff_moveg rfl rfl) rfl ?_;refine st rfl rfl (eff_ix (f := S1079.c) (l := a0) (a := y3) rfl Tryz.underlying25 ty1080 rfl rfl (Int.natCast_nonneg _) hx1) rfl ?_;refine st rfl rfl (eff_loadA rfl ty1080 rfl rfl rfl) rfl ?_;refine st rfl rfl (eff_callf rfl ha1 Ka1 rfl (Ha1 y3) (ag_cons rfl ag_nil)) rfl ?_;refine st_nil ?_;refine aw_cond _ rfl (fun h3 => ?_) (fun h3 => ?_)
   ·replace h3 : ((a1 y3)) = true := h3;replace hR := condT hR h3;(try simp only [Bool.or_eq_true, Bool.and_eq_true, Bool.or_eq_false_iff, Bool.and_eq_false_iff, Bool.not_eq_true', Bool.not_eq_false', decide_eq_true_eq, decide_eq_false_iff_not] at h3);refine aw_seq ?_;refine aw_region [.p, .p] ?_;refine st rfl rfl (eff_moveg rfl rfl) rfl ?_;refine st rfl rfl (eff_assigng rfl rfl) rfl ?_;refine st_nil ?_;refine aw_ret ?_;subst hR;exact res_c rfl (rv_g rfl)
   ·replace h3 : ((a1 y3)) = false := h3;replace hR := condF hR h3;(try simp only [Bool.or_eq_true, Bool.and_eq_true, Bool.or_eq_false_iff, Bool.and_eq_false_iff, Bool.not_eq_true', Bool.not_eq_false', decide_eq_true_eq, decide_eq_false_iff_not] at h3);refine aw_skip ?_;refine aw_region [.p, .p] ?_;refine st rfl rfl (eff_add rfl rfl rfl (by unfold I64; omega)) rfl ?_;refine st rfl rfl (eff_moveg rfl rfl) rfl ?_;refine st_nil ?_;exact ⟨rfl, (k2 + 1, t4), ⟨rfl, rfl, rfl, rfl, trivial⟩, trivial, rfl, ⟨hd, hR⟩, by simp⟩
  ·replace h1 : (decide (((k2 : Nat) : Int) < (List.length a0 : Int))) = false := h1;obtain rfl := drop_nil hd (decF h1);rw [s1172_l1] at hR;refine aw_exit ?_;refine aw_seq ?_;refine aw_region [.p] ?_;refine st rfl rfl (eff_assigng rfl rfl) rfl ?_;refine st_nil ?_;refine aw_ret ?_;subst hR;exact res_c rfl (rv_g rfl)
theorem ix_rng {α : Type} (p : α → Bool) (F : List α → Nat → Int) (h0 : ∀ k, F [] k = -1) (h1 : ∀ y t k, F (y :: t) k = bif p y then ((k : Nat) : Int) else F t (k + 1)) :
  ∀ l k, F l k = -1 ∨ ((k : Int) ≤ F l k ∧ F l k < (k : Int) + (l.length : Int))
 | [], k => .inl (h0 k)
 | y :: t, k => by
  rw [h1, List.length_cons]
  cases p y with
  | true => right; simp; omega
  | false =>
   rcases ix_rng p F h0 h1 t (k + 1) with h | h
   ·left; exact h
   ·right; simp only [cond_false]; push_cast at h ⊢; omega
theorem ix1172 (l : List S1079) (p : S1079 → Bool) : s1172 l p = -1 ∨ (0 ≤ s1172 l p ∧ s1172 l p < (l.length : Int)) := by
 have := ix_rng p (s1172_l1 p) (fun _ => rfl) (fun _ _ _ => rfl) l 0
 simpa [s1172] using this
end Go.Sim
set_option maxRecDepth 10000
namespace Go.Sim
open Go.Proofs
def s1149_j1 (rec1 : Int → Int → (List S1079) → Option ((List S1079) × Nat)) (x2 : Int) (x6 : Int) (x7 : List S1079) : Option ((List S1079) × Nat) :=
 rec1 x6 (x2 + 1) x7
def s1149_l1 (a0 : List S1079) (a1 : S1079 → Bool) : Nat → Int → Int → (List S1079) → Option ((List S1079) × Nat)
 | 0, _, _, _ => none
 | k5 + 1, x1, x2, x3 => (bif decide (x2 < (List.length a0 : Int)) then bindO (ixO x3 x2) fun y9 => (bif !(a1 y9) then bindO (ixO x3 x1) fun y10 => s1149_j1 (fun z0_ z1_ z2_ => s1149_l1 a0 a1 k5 z0_ z1_ z2_) x2 (x1 + 1) (List.set x3 (Int.toNat x1) y9) else s1149_j1 (fun z0_ z1_ z2_ => s1149_l1 a0 a1 k5 z0_ z1_ z2_) x2 x1 x3) else some (List.take (Int.toNat x1) x3, Int.toNat x1))
def s1149 (a0 : List S1079) (a1 : S1079 → Bool) : Option ((List S1079) × Nat) :=
 (bif decide ((s1172 a0 a1) = (-1)) then some (a0, List.length a0) else s1149_l1 a0 a1 ((((List.length a0 : Int) - ((s1172 a0 a1) + 1)).toNat) + 1) (s1172 a0 a1) ((s1172 a0 a1) + 1) a0)
theorem c1149 {g : List (Nat × List Value)} (a0 : List S1079) (a1 : S1079 → Bool) {R : (List S1079) × Nat} {ca1 : G} {ia1 : FuncId} {ka1 : List G} (ha1 : FnIs ca1 ia1 ka1) (Ka1 : Known Tryz.prog ia1) (Ha1 : ∀ (x0 : S1079), Con (EG g) ia1 ([G.agg [G.int x0.Moment, G.str x0.Kind, G.str x0.Terminal, G.int x0.Seats, G.int x0.Size, G.int x0.Noise, G.str x0.Name]] ++ ka1) (G.bool (a1 x0)))  (hR : s1149 a0 a1 = some R) : ConT (EG g) 105 [.osl 0 7 0 (List.length a0), .g (ca1)] 44 7 (List.map S1079.c a0) (List.map S1079.c R.1) R.2 := by
 unfold s1149 at hR;refine conT_of_aw Tryz.func105 rfl rfl fun w0 M0 x => ?_;refine len_osl (f := S1079.c) (l := a0) 0 rfl fun hla0 => ?_;have hix := ix1172 a0 a1;refine aw_seq ?_;refine aw_region [.p] ?_;refine st rfl rfl (eff_assigng rfl rfl) rfl ?_;refine st_nil ?_;refine aw_seq ?_;refine aw_region [.p, .p, .r, .p] ?_;refine st rfl rfl (eff_moveO rfl rfl) rfl ?_;refine st rfl rfl (eff_moveg rfl rfl) rfl ?_;refine st_r rfl rfl (eff_callO rfl K1172 rfl (Con.lend (c1172 a0 a1 ha1 Ka1 Ha1)) (agv_osl rfl rfl (agv_cons rfl agv_nil))) rfl ?_;refine st rfl rfl (eff_assigng rfl rfl) rfl ?_;refine st_nil ?_;refine aw_seq ?_;refine aw_seq ?_;refine aw_region [.p, .p] ?_;refine st rfl rfl (eff_moveg rfl rfl) rfl ?_;refine st rfl rfl (eff_eql rfl rfl rfl) rfl ?_;refine st_nil ?_;refine aw_cond _ rfl (fun h1 => ?_) (fun h1 => ?_)
 ·replace h1 : (decide ((s1172 a0 a1) = (-1))) = true := h1;replace hR := condT hR h1;(try simp only [Bool.or_eq_true, Bool.and_eq_true, Bool.or_eq_false_iff, Bool.and_eq_false_iff, Bool.not_eq_true', Bool.not_eq_false', decide_eq_true_eq, decide_eq_false_iff_not] at h1);refine aw_seq ?_;refine aw_region [.p, .p] ?_;refine st rfl rfl (eff_moveO rfl rfl) rfl ?_;refine st rfl rfl (eff_assignO rfl rfl) rfl ?_;refine st_nil ?_;refine aw_ret ?_;obtain rfl := Option.some.inj hR;show (∃ t_, _ ∧ _) ∧ MemL _ _;exact ⟨⟨_, rfl, rfl⟩, rfl, trivial⟩
 ·replace h1 : (decide ((s1172 a0 a1) = (-1))) = false := h1;replace hR := condF hR h1;(try simp only [Bool.or_eq_true, Bool.and_eq_true, Bool.or_eq_false_iff, Bool.and_eq_false_iff, Bool.not_eq_true', Bool.not_eq_false', decide_eq_true_eq, decide_eq_false_iff_not] at h1);refine aw_skip ?_;refine aw_seq ?_;refine aw_seq ?_;refine aw_region [.p, .p, .p] ?_;refine st rfl rfl (eff_moveg rfl rfl) rfl ?_;refine st rfl rfl (eff_add rfl rfl rfl (by unfold I64; (try dsimp only); omega)) rfl ?_;refine st rfl rfl (eff_assigng rfl rfl) rfl ?_;refine st_nil ?_;refine aw_block ?_;refine aw_loop_g (γ := Nat × Int × Int × (List S1079)) (fun g => ([(0, .osl 0 7 0 (List.length a0)), (1, .g (ca1)), (5, .g (G.int g.2.1)), (6, .g (G.int g.2.2.1))], [(0, .arr 44 7 (List.map S1079.c g.2.2.2))])) (fun g => ((List.length a0 : Int) - g.2.2.1).toNat < g.1 ∧ 0 ≤ g.2.1 ∧ g.2.1 < g.2.2.1 ∧ g.2.2.1 ≤ (List.length a0 : Int) ∧ List.length g.2.2.2 = List.length a0 ∧ s1149_l1 a0 a1 g.1 g.2.1 g.2.2.1 g.2.2.2 = some R) (fun g => g.1) ⟨rfl, ((((List.length a0 : Int) - ((s1172 a0 a1) + 1)).toNat) + 1, (s1172 a0 a1), (s1172 a0 a1) + 1, a0), ⟨rfl, rfl, rfl, rfl, trivial⟩, ⟨rfl, trivial⟩, rfl, ⟨Nat.lt_succ_self _, (by first | omega | (dsimp only; omega) | simp), (by first | omega | (dsimp only; omega) | simp), (by first | omega | (dsimp only; omega) | simp), rfl, hR⟩, trivial⟩ ?_
  ·rintro ⟨k5, x1, x2, x3⟩ ⟨hk1, iv1_0, iv1_1, iv1_2, ln4, hR⟩;replace hk1 : ((List.length a0 : Int) - x2).toNat < k5 := hk1;replace hR : s1149_l1 a0 a1 k5 x1 x2 x3 = some R := hR;replace iv1_0 : 0 ≤ x1 := iv1_0;replace iv1_1 : x1 < x2 := iv1_1;replace iv1_2 : x2 ≤ (List.length a0 : Int) := iv1_2;replace ln4 : List.length x3 = List.length a0 := ln4;obtain ⟨k5, rfl⟩ : ∃ m, k5 = m + 1 := ⟨k5 - 1, by omega⟩;rw [s1149_l1] at hR;(try dsimp only at hR);refine aw_seq ?_;refine aw_seq ?_;refine aw_region [.p, .p, .p, .p] ?_;refine st rfl rfl (eff_moveg rfl rfl) rfl ?_;refine st rfl rfl (eff_moveO rfl rfl) rfl ?_;refine st rfl rfl (eff_lenO0 rfl Tryz.underlying25 rfl) rfl ?_;refine st rfl rfl (eff_lss rfl rfl rfl) rfl ?_;refine st_nil ?_;refine aw_cond _ rfl (fun h2 => ?_) (fun h2 => ?_)
   ·replace h2 : (decide (x2 < (List.length a0 : Int))) = true := h2;replace hR := condT hR h2;(try simp only [Bool.or_eq_true, Bool.and_eq_true, Bool.or_eq_false_iff, Bool.and_eq_false_iff, Bool.not_eq_true', Bool.not_eq_false', decide_eq_true_eq, decide_eq_false_iff_not] at h2);refine aw_skip ?_;refine aw_cut_g (γ := Int × (List S1079)) (fun g => ([(0, .osl 0 7 0 (List.length a0)), (1, .g (ca1)), (5, .g (G.int g.1)), (6, .g (G.int x2))], [(0, .arr 44 7 (List.map S1079.c g.2))])) (fun g => 0 ≤ g.1 ∧ g.1 ≤ x2 ∧ List.length g.2 = List.length a0 ∧ s1149_j1 (fun z0_ z1_ z2_ => s1149_l1 a0 a1 k5 z0_ z1_ z2_) x2 g.1 g.2 = some R) ?_ ?_
    ·refine aw_block ?_;refine aw_seq ?_;obtain ⟨y9, by9, hR⟩ := bindO_inv hR;refine aw_region [.p, .p, .p, .r, .w, .w] ?_;refine st rfl rfl (eff_moveO rfl rfl) rfl ?_;refine st rfl rfl (eff_moveg rfl rfl) rfl ?_;refine st rfl rfl (eff_ixL rfl Tryz.underlying25 ty1080 rfl rfl (ixO_nn by9) (Nat.lt_of_lt_of_eq (get_lt (ixO_get by9)) ln4)) rfl ?_;refine st_r rfl rfl (eff_ldEA (f := S1079.c) (l := x3) (a := y9) rfl ty1080 rfl rfl (ixO_get by9)) rfl ?_;refine st_w rfl rfl (eff_alloc 7 rfl z1080 rfl rfl) rfl ?_;refine st_wn rfl rfl (eff_store (tv := .g (G.agg [G.int y9.Moment, G.str y9.Kind, G.str y9.Terminal, G.int y9.Seats, G.int y9.Size, G.int y9.Noise, G.str y9.Name])) rfl ty1080 rfl rfl rfl rfl rfl) ?_;refine st_nil ?_;refine aw_seq ?_;refine aw_region [.p, .r, .p, .p] ?_;refine st rfl rfl (eff_moveg rfl rfl) rfl ?_;refine st_r rfl rfl (eff_loadOA rfl ty1080 rfl rfl rfl rfl) rfl ?_;refine st rfl rfl (eff_callf rfl ha1 Ka1 rfl (Con.lend (Ha1 y9)) (ag_cons rfl ag_nil)) rfl ?_;refine st rfl rfl (eff_not rfl rfl) rfl ?_;refine st_nil ?_;refine aw_cond _ rfl (fun h3 => ?_) (fun h3 => ?_)
     ·replace h3 : (!(a1 y9)) = true := h3;replace hR := condT hR h3;(try simp only [Bool.or_eq_true, Bool.and_eq_true, Bool.or_eq_false_iff, Bool.and_eq_false_iff, Bool.not_eq_true', Bool.not_eq_false', decide_eq_true_eq, decide_eq_false_iff_not] at h3);refine aw_seq ?_;obtain ⟨y10, by10, hR⟩ := bindO_inv hR;refine aw_region [.p, .p, .r, .p, .w] ?_;refine st rfl rfl (eff_moveO rfl rfl) rfl ?_;refine st rfl rfl (eff_moveg rfl rfl) rfl ?_;refine st_r rfl rfl (eff_loadOA rfl ty1080 rfl rfl rfl rfl) rfl ?_;refine st rfl rfl (eff_ixL rfl Tryz.underlying25 ty1080 rfl rfl (ixO_nn by10) (Nat.lt_of_lt_of_eq (get_lt (ixO_get by10)) ln4)) rfl ?_;refine st_wn rfl rfl (eff_setL (f := S1079.c) (l := x3) (a' := y9) rfl ty1080 rfl rfl rfl (Nat.lt_of_lt_of_eq (Nat.lt_of_lt_of_eq (get_lt (ixO_get by10)) ln4) (Eq.symm ln4)) rfl (fun _ => rfl)) ?_;refine st_nil ?_;refine aw_region [.p, .p, .p] ?_;refine st rfl rfl (eff_moveg rfl rfl) rfl ?_;refine st rfl rfl (eff_add rfl rfl rfl (by unfold I64; (try dsimp only); omega)) rfl ?_;refine st rfl rfl (eff_assigng rfl rfl) rfl ?_;refine st_nil ?_;exact ⟨rfl, (x1 + 1, List.set x3 (Int.toNat x1) y9), ⟨(by simp only [List.length_set]; rfl), rfl, rfl, rfl, trivial⟩, ⟨rfl, trivial⟩, rfl, ⟨(by first | omega | (dsimp only; omega) | (simp at *; omega)), (by first | omega | (dsimp only; omega) | (simp at *; omega)), ((List.length_set ..).trans ln4), hR⟩, trivial⟩
     ·replace h3 : (!(a1 y9)) = false := h3;replace hR := condF hR h3;(try simp only [Bool.or_eq_true, Bool.and_eq_true, Bool.or_eq_false_iff, Bool.and_eq_false_iff, Bool.not_eq_true', Bool.not_eq_false', decide_eq_true_eq, decide_eq_false_iff_not] at h3);refine aw_skip ?_;exact ⟨rfl, (x1, x3), ⟨rfl, rfl, rfl, rfl, trivial⟩, ⟨rfl, trivial⟩, rfl, ⟨(by first | omega | (dsimp only; omega) | (simp at *; omega)), (by first | omega | (dsimp only; omega) | (simp at *; omega)), ln4, hR⟩, trivial⟩
    ·rintro ⟨x6, x7⟩ ⟨jv1_0, jv1_1, ln8, hR⟩;replace jv1_0 : 0 ≤ x6 := jv1_0;replace jv1_1 : x6 ≤ x2 := jv1_1;replace ln8 : List.length x7 = List.length a0 := ln8;replace hR : s1149_j1 (fun z0_ z1_ z2_ => s1149_l1 a0 a1 k5 z0_ z1_ z2_) x2 x6 x7 = some R := hR;unfold s1149_j1 at hR;refine aw_region [.p, .p, .p] ?_;refine st rfl rfl (eff_moveg rfl rfl) rfl ?_;refine st rfl rfl (eff_add rfl rfl rfl (by unfold I64; (try dsimp only); omega)) rfl ?_;refine st rfl rfl (eff_assigng rfl rfl) rfl ?_;refine st_nil ?_;exact ⟨rfl, (k5, x6, x2 + 1, x7), ⟨rfl, rfl, rfl, rfl, trivial⟩, ⟨rfl, trivial⟩, rfl, ⟨(by first | omega | (dsimp only; omega) | (simp at *; omega)), (by first | omega | (dsimp only; omega) | (simp at *; omega)), (by first | omega | (dsimp only; omega) | (simp at *; omega)), (by first | omega | (dsimp only; omega) | (simp at *; omega)), ln8, hR⟩, by simp⟩
   ·replace h2 : (decide (x2 < (List.length a0 : Int))) = false := h2;replace hR := condF hR h2;(try simp only [Bool.or_eq_true, Bool.and_eq_true, Bool.or_eq_false_iff, Bool.and_eq_false_iff, Bool.not_eq_true', Bool.not_eq_false', decide_eq_true_eq, decide_eq_false_iff_not] at h2);refine aw_exit ?_;refine aw_seq ?_;refine aw_region [.p, .p, .p, .w] ?_;refine st rfl rfl (eff_moveO rfl rfl) rfl ?_;refine st rfl rfl (eff_moveg rfl rfl) rfl ?_;refine st rfl rfl (eff_slO (a := Int.toNat x1) (c := List.length a0) rfl Tryz.underlying25 ty1080 rfl (bnd_some rfl (by omega)) bnd_none (by omega) (by omega)) rfl ?_;refine st_wn rfl rfl (eff_clearO (f0 := S1079.c) (l := x3) (a := Int.toNat x1) rfl Tryz.underlying25 z1080 rfl ln4 rfl rfl rfl) ?_;refine st_nil ?_;refine aw_seq ?_;refine aw_region [.p, .p, .p, .p] ?_;refine st rfl rfl (eff_moveO rfl rfl) rfl ?_;refine st rfl rfl (eff_moveg rfl rfl) rfl ?_;refine st rfl rfl (eff_slO (a := 0) (c := Int.toNat x1) rfl Tryz.underlying25 ty1080 rfl bnd_none (bnd_some rfl (by omega)) (by omega) (by omega)) rfl ?_;refine st rfl rfl (eff_assignO rfl rfl) rfl ?_;refine st_nil ?_;refine aw_ret ?_;obtain rfl := Option.some.inj hR;show (∃ t_, _ ∧ _) ∧ MemL _ _;exact ⟨⟨_, rfl, rfl⟩, rfl, trivial⟩
section
variable {α : Type} (p : α → Bool) (n : Nat) (F : Nat → Int → Int → List α → Option (List α × Nat))
theorem del_loop (h1 : ∀ k i j x, F (k + 1) i j x = bif decide (j < (n : Int)) then bindO (ixO x j) fun y => (bif !(p y) then bindO (ixO x i) fun _ => F k (i + 1) (j + 1) (List.set x (Int.toNat i) y) else F k i (j + 1) x) else some (List.take (Int.toNat i) x, Int.toNat i)) :
  ∀ (t x : List α) (k i j : Nat), x.length = n → i < j → j + t.length = n → x.drop j = t → t.length < k → F k (i : Int) (j : Int) x = some (x.take i ++ t.filter (fun y => !(p y)), i + (t.filter (fun y => !(p y))).length)
 | _, x, 0, i, j, _, _, _, _, h => by omega
 | [], x, k + 1, i, j, hx, hij, hjn, _, _ => by
  rw [h1]
  have : ¬ (j : Int) < (n : Int) := by simp at hjn; omega
  rw [decide_eq_false this, cond_false]; simp
 | y :: t, x, k + 1, i, j, hx, hij, hjn, hd, hk => by
  rw [h1];rw [List.length_cons] at hjn hk
  have hlt : j < x.length := by omega
  have hdy := hd;rw [List.drop_eq_getElem_cons hlt] at hdy;have hy : x[j] = y := (List.cons.inj hdy).1;have ht : x.drop (j + 1) = t := (List.cons.inj hdy).2
  have i1 : ixO x (j : Int) = some y := by unfold ixO; rw [decide_eq_true (by omega), cond_true]; simp [hlt, hy]
  have i2 : ixO x (i : Int) = some x[i] := by unfold ixO; rw [decide_eq_true (by omega), cond_true]; simp [show i < x.length by omega]
  rw [decide_eq_true (show (j : Int) < (n : Int) by omega), cond_true, i1];simp only [bindO]
  cases hp : p y
  ·have e1 : ((i : Int) + 1) = ((i + 1 : Nat) : Int) := by push_cast; rfl
   have e2 : ((j : Int) + 1) = ((j + 1 : Nat) : Int) := by push_cast; rfl
   rw [Bool.not_false, cond_true, i2];simp only [];rw [e1, e2, show Int.toNat (i : Int) = i from rfl, del_loop h1 t (x.set i y) k (i + 1) (j + 1) (by simp [hx]) (by omega) (by omega) (by rw [List.drop_set_of_lt (by omega)]; exact ht) (by omega)]
   have e3 : (x.set i y).take (i + 1) = x.take i ++ [y] := by
    rw [List.take_succ_eq_append_getElem (by simp; omega)];rw [List.take_set_of_le (by omega)]
    simp
   rw [e3, List.filter_cons_of_pos (by simp [hp])];simp only [List.append_assoc, List.singleton_append, List.length_cons]
   congr 2; omega
  ·have e2 : ((j : Int) + 1) = ((j + 1 : Nat) : Int) := by push_cast; rfl
   rw [Bool.not_true, cond_false, e2, del_loop h1 t x k i (j + 1) hx (by omega) (by omega) ht (by omega), List.filter_cons_of_neg (by simp [hp])]
theorem ix_first (G : List α → Nat → Int) (h0 : ∀ k, G [] k = -1) (h1 : ∀ y t k, G (y :: t) k = bif p y then ((k : Nat) : Int) else G t (k + 1)) :
  ∀ l k, (G l k = -1 ∧ ∀ y ∈ l, p y = false) ∨ ∃ (i : Nat) (y : α) (t : List α), G l k = ((k + i : Nat) : Int) ∧ l = l.take i ++ y :: t ∧ i < l.length ∧ p y = true ∧ ∀ z ∈ l.take i, p z = false
 | [], k => .inl ⟨h0 k, by simp⟩
 | y :: t, k => by
  rw [h1]
  cases hp : p y with
  | true => exact .inr ⟨0, y, t, by simp, by simp, by simp, hp, by simp⟩
  | false =>
   rcases ix_first G h0 h1 t (k + 1) with ⟨h, h2⟩ | ⟨i, z, s, h2, h3, h4, h5, h6⟩
   ·exact .inl ⟨h, fun w hw => by rcases List.mem_cons.1 hw with e | e; exact e ▸ hp; exact h2 w e⟩
   ·refine .inr ⟨i + 1, z, s, by rw [cond_false, h2]; congr 1; omega, ?_, by simp; omega, h5, ?_⟩
    ·rw [List.take_succ_cons, List.cons_append, ← h3]
    ·intro w hw;rw [List.take_succ_cons] at hw
     rcases List.mem_cons.1 hw with e | e
     ·rw [e]; exact hp
     ·exact h6 w e
theorem del_ok (h1 : ∀ k i j x, F (k + 1) i j x = bif decide (j < (n : Int)) then bindO (ixO x j) fun y => (bif !(p y) then bindO (ixO x i) fun _ => F k (i + 1) (j + 1) (List.set x (Int.toNat i) y) else F k i (j + 1) x) else some (List.take (Int.toNat i) x, Int.toNat i))
  (G : List α → Nat → Int) (g0 : ∀ k, G [] k = -1) (g1 : ∀ y t k, G (y :: t) k = bif p y then ((k : Nat) : Int) else G t (k + 1)) (l : List α) (hn : l.length = n) :
  ∃ L : List α, (bif decide (G l 0 = (-1)) then some (l, l.length) else F ((((n : Int) - (G l 0 + 1)).toNat) + 1) (G l 0) (G l 0 + 1) l) = some (L, (l.filter (fun y => !(p y))).length) ∧ L.take (l.filter (fun y => !(p y))).length = l.filter (fun y => !(p y)) ∧ (l.filter (fun y => !(p y))).length ≤ L.length := by
 rcases ix_first p G g0 g1 l 0 with ⟨h, h2⟩ | ⟨i, y, t, h2, h3, h4, h5, h6⟩
 ·have hf : l.filter (fun y => !(p y)) = l := List.filter_eq_self.2 fun y hy => by simp [h2 y hy]
  rw [h, decide_eq_true rfl, cond_true, hf];exact ⟨l, rfl, by simp, Nat.le_refl _⟩
 ·rw [h2]
  have hne : ¬ (((0 + i : Nat) : Int) = -1) := by omega
  rw [decide_eq_false hne, cond_false, Nat.zero_add]
  have e2 : ((i : Int) + 1) = ((i + 1 : Nat) : Int) := by push_cast; rfl
  have hd : l.drop (i + 1) = t := by
   have hl : (l.take i).length = i := by rw [List.length_take]; omega
   rw [h3, show i + 1 = (l.take i).length + 1 by rw [hl], List.drop_append]
   simp
  have htl : i + 1 + t.length = n := by
   have := congrArg List.length hd;rw [List.length_drop] at this; omega
  have hfl : l.filter (fun y => !(p y)) = l.take i ++ t.filter (fun y => !(p y)) := by
   conv => lhs; rw [h3]
   rw [List.filter_append, List.filter_cons_of_neg (by simp [h5])]
   congr 1
   exact List.filter_eq_self.2 fun z hz => by simp [h6 z hz]
  have hlen : (l.filter (fun y => !(p y))).length = i + (t.filter (fun y => !(p y))).length := by
   rw [hfl, List.length_append, List.length_take]; omega
  rw [e2, del_loop p n F h1 t l _ i (i + 1) hn (by omega) htl hd (by omega), ← hlen, ← hfl];exact ⟨_, rfl, List.take_length, Nat.le_refl _⟩
end
theorem s1149_ok (l : List S1079) (p : S1079 → Bool) : ∃ L : List S1079, s1149 l p = some (L, (l.filter (fun y => !(p y))).length) ∧ L.take (l.filter (fun y => !(p y))).length = l.filter (fun y => !(p y)) ∧ (l.filter (fun y => !(p y))).length ≤ L.length :=
 del_ok p l.length (s1149_l1 l p) (fun _ _ _ _ => rfl) (s1172_l1 p) (fun _ => rfl) (fun _ _ _ => rfl) l rfl
theorem give1149 {l : List S1079} {p : S1079 → Bool} {R : List S1079 × Nat} (h : s1149 l p = some R) : R.2 ≤ R.1.length := by
 obtain ⟨L, h1, _, h3⟩ := s1149_ok l p;rw [h1] at h; cases h; exact h3
theorem num1149 {l : List S1079} {p : S1079 → Bool} {R : List S1079 × Nat} (h : s1149 l p = some R) : R.2 ≤ l.length := by
 obtain ⟨L, h1, _, h3⟩ := s1149_ok l p;rw [h1] at h; cases h; exact List.length_filter_le _ _
section
variable {E : Env} {w0 : World} {M0 : Nat → Prop}
theorem TFits.forget {w : World} {M : Nat → Prop} {ρ : Rho} : ∀ {cs : List TV} {vs : List Value} (p : Nat), TFits w M ρ cs vs → TFits w M ρ (cs.set p .any) vs
 | [], [], _, _ => trivial
 | _ :: _, _ :: _, 0, h => ⟨⟨trivial, h.1.2⟩, h.2⟩
 | _ :: _, _ :: _, p + 1, h => ⟨h.1, TFits.forget p h.2⟩
 | [], _ :: _, _, h => h.elim
 | _ :: _, [], _, h => h.elim
theorem TFits.give {w : World} {M : Nat → Prop} {ρ : Rho} {tv : TV} {v : Value} (ht : TRel w M ρ tv v) : ∀ {cs : List TV} {vs : List Value} (p : Nat), TFits w M ρ cs vs → vs[p]? = some v → TFits w M ρ (cs.set p tv) vs
 | [], [], _, _, _ => trivial
 | _ :: _, u :: _, 0, h, hv => by simp at hv; subst hv; exact ⟨⟨ht, h.1.2⟩, h.2⟩
 | _ :: _, _ :: _, p + 1, h, hv => ⟨h.1, TFits.give ht p h.2 (by simpa using hv)⟩
 | [], _ :: _, _, h, _ => h.elim
 | _ :: _, [], _, h, _ => h.elim
theorem rho_same {ρ : Rho} {id : Nat} {ow : Own} (h : ρ id = some (some ow)) : rhoSet ρ id (some ow) = ρ := by
 funext i
 by_cases hi : i = id
 ·subst hi; rw [rhoSet_same]; exact h.symm
 ·simp [rhoSet, hi]
theorem arel_nilcell {a : Act} {w : World} {s : ASt} {b p id k : Nat} {e : TypeId} {cs : List TV} (ha : ARel E w0 M0 s a w) (hb : lookO s.mem b = some (.box cs)) (hc : cs[p]? = some (.g (.lit (.slice none 0 0)))) (hf : lookO s.mem id = none) (hne : Nat.beq id b = false) :
  ARel E w0 M0 ⟨s.n, s.tmps, (b, .box (cs.set p (.osl id k 0 0))) :: (id, .arr e k []) :: s.mem⟩ a w := by
 obtain ⟨ρ, hm, hmk, ht⟩ := ha.ex;have hr := rho_none hm hf;obtain ⟨m1, m2⟩ := mrel_upd (id := id) (x := none) (blk' := .arr e k []) none hm ⟨rfl, rfl, rfl, Nat.le_refl _, fun _ _ _ => rfl⟩ (fun o ho => by cases ho) (.inr ⟨rfl, .inl hr⟩) (fun _ b _ _ => noref_none b) (.inl rfl) (.inl ⟨rhoSet_same _ _ _, rfl⟩)
 have hb' : lookO ((id, Blk.arr e k []) :: s.mem) b = some (.box cs) := by simp only [lookO, hne]; exact hb
 obtain ⟨ow, ty, vs, g1, g2, g3, g4⟩ := m1.blk b _ hb';obtain ⟨v, h4, h5, _⟩ := TFits.get p g4 hc;have hv : v = .slice none 0 0 := h5;subst hv;obtain ⟨n1, n2⟩ := mrel_upd (id := b) (x := some ow) (blk' := .box (cs.set p (.osl id k 0 0))) none m1 ⟨rfl, rfl, rfl, Nat.le_refl _, fun _ _ _ => rfl⟩ (fun o ho => by cases ho; exact ⟨.inr ⟨ow, g1, rfl⟩, (m1.fresh b ow g1).2⟩) (.inr ⟨rfl, .inr g1⟩) (fun _ b _ _ => noref_none b) (.inl rfl)
  ⟨ow, ty, vs, rhoSet_same _ _ _, g2, g3, by rw [rho_same g1]; exact TFits.give (show TRel w (owned M0 (rhoSet ρ id none)) (rhoSet ρ id none) (.osl id k 0 0) (.slice none 0 0) from Or.inl ⟨rhoSet_same _ _ _, rfl, rfl, rfl⟩) p g4 h4⟩
 exact ⟨ha.defers, ha.size, _, n1, ⟨hmk.1, fun d hd => by
  obtain ⟨D, q1, q2, q3⟩ := hmk.2 d hd
  exact ⟨D, q1, q2, n2 (.g (G.mark D)) undef rfl (m2 (.g (G.mark D)) undef rfl q3)⟩⟩, fun i => n2 _ _ (by cases s.get i <;> rfl) (m2 _ _ (by cases s.get i <;> rfl) (ht i))⟩
theorem aw_nilcell {c : Code} {Q : Exit → ASt → Prop} {s : ASt} (b p id k : Nat) (e : TypeId) {cs : List TV} (hb : lookO s.mem b = some (.box cs)) (hc : cs[p]? = some (.g (.lit (.slice none 0 0)))) (hf : lookO s.mem id = none) (hne : Nat.beq id b = false)
  (h : AWp E w0 M0 c Q ⟨s.n, s.tmps, (b, .box (cs.set p (.osl id k 0 0))) :: (id, .arr e k []) :: s.mem⟩) : AWp E w0 M0 c Q s := fun a w ha => h a w (arel_nilcell ha hb hc hf hne)
end
section
variable {E : Env} {ops : Array Oper} {o : Oper} {os : List Oper} {cs : List Cls} {s : ASt} {r : TV} {K : ASt → Prop}
end
section
variable {E : Env} {w0 : World} {M0 : Nat → Prop}
def MemF (s : ASt) (b : Nat) (blk : Blk) : Mem → Prop
 | [] => True
 | (i, B) :: r => (bif Nat.beq i b then B = blk else lookO s.mem i = some B) ∧ MemF s b blk r
theorem memF_look {s : ASt} {b : Nat} {blk : Blk} : ∀ {m : Mem}, MemF s b blk m → ∀ i B, lookO m i = some B → (i = b ∧ B = blk) ∨ (i ≠ b ∧ lookO s.mem i = some B)
 | [], _, _, _, h => by cases h
 | (j, B') :: r, hm, i, B, h => by
  simp only [lookO] at h
  cases hj : Nat.beq j i with
  | true =>
   rw [hj] at h;have hji := Nat.eq_of_beq_eq_true hj;subst hji;simp only [cond_true, Option.some.injEq] at h;subst h;have h1 := hm.1
   cases hb : Nat.beq j b with
   | true => rw [hb] at h1; exact .inl ⟨Nat.eq_of_beq_eq_true hb, h1⟩
   | false =>
    rw [hb] at h1;exact .inr ⟨fun e => by subst e; simp at hb, h1⟩
  | false => rw [hj] at h; exact memF_look hm.2 i B h
theorem aw_frzcell {c : Code} {Q : Exit → ASt → Prop} {s : ASt} (b p id k N : Nat) {e : TypeId} {cs : List TV} {xs : List (List G)} {l : List (Nat × TV)} {m : Mem} (hb : lookO s.mem b = some (.box cs)) (hc : cs[p]? = some (.osl id k 0 N)) (hx : lookO s.mem id = some (.arr e k xs)) (hN : xs.length = N)
  (h1 : WeakL s l) (h2 : MemF s b (.box (cs.set p (.g (.sl k xs)))) m) (h3 : closedB l m = true) (hid : lookO m id = none)
  (h : AWp E w0 M0 c Q (stt s.n l m)) (hbw : bowIn E m = true := by rfl) : AWp E w0 M0 c Q s := by
 intro a w ha;refine h a w ?_;obtain ⟨ρ, hm, hmk, ht⟩ := ha.ex
 let ρ' : Rho := fun id => if (lookO m id).isSome = true then ρ id else none
 have hρ : ∀ id, (lookO m id).isSome = true → ρ' id = ρ id := fun id hi => by simp only [ρ', if_pos hi]
 have hρ' : ∀ id x, ρ' id = some x → ρ id = some x ∧ (lookO m id).isSome = true := by
  intro id x hx;simp only [ρ'] at hx
  split at hx
  ·rename_i hi; exact ⟨hx, hi⟩
  ·cases hx
 have hM : ∀ b, owned M0 ρ' b → owned M0 ρ b := by
  rintro b (hb | ⟨id, o, ho, rfl⟩)
  ·exact .inl hb
  ·exact .inr ⟨id, o, (hρ' id _ ho).1, rfl⟩
 have hlent : lookO E.bow id = none := by
  cases hq : lookO E.bow id with
  | none => rfl
  | some x =>
   have := List.all_eq_true.1 hbw (id, x) (lookO_mem _ hq);simp only [hid] at this
   cases this
 have hno : ∀ ow, ρ id = some (some ow) → ¬ owned M0 ρ' ow.b := by
  rintro ow ho (hM0 | ⟨i, o, hi, he⟩)
  ·exact not_lent hm ho hlent (.inl hM0)
  ·have := hm.inj i id o ow (hρ' i _ hi).1 ho he;subst this;have := (hρ' i _ hi).2;rw [hid] at this; cases this
 simp only [closedB, Bool.and_eq_true, List.all_eq_true] at h3;refine ⟨ha.defers, ha.size, ρ', ⟨hm.below, hm.m0, ?_, ?_, ?_, ?_, ?_, hm.lentM, ?_⟩, hmk.sub hM, ?_⟩
 ·intro g vs hg;have := hm.glob g vs hg;exact ⟨⟨fun hb => this.1.1 (hM _ hb), this.1.2⟩, this.2.mono (fun _ _ _ => rfl) (fun b _ => hM b) this.1.1⟩
 ·intro id x hx;have := (hρ' id x hx).2
  cases hl : lookO m id with
  | none => rw [hl] at this; cases this
  | some b => exact ⟨b, hl⟩
 ·exact fun id ow ho => hm.fresh id ow (hρ' id _ ho).1
 ·exact fun id id' ow ow' ho ho' => hm.inj id id' ow ow' (hρ' id _ ho).1 (hρ' id' _ ho').1
 ·intro id x hx;rw [hρ id (List.all_eq_true.1 hbw (id, x) (lookO_mem _ hx))];exact hm.keep id x hx
 ·intro i blk' hb0;have hb0 : lookO m i = some blk' := hb0
  have hi : (lookO m i).isSome = true := by rw [hb0]; rfl
  rcases memF_look h2 i blk' hb0 with ⟨rfl, rfl⟩ | ⟨_, hold⟩
  ·obtain ⟨ow, ty, vs, g1, g2, g3, g4⟩ := hm.blk i _ hb;have hcl := h3.2 (i, .box (cs.set p (.g (.sl k xs)))) (lookO_mem _ hb0);obtain ⟨v, h4, h5, _⟩ := TFits.get p g4 hc;have hview := osl_view hm hx h5 (Nat.zero_le _) (by rw [hN]; exact Nat.le_refl _);obtain ⟨a', cap, e1, k1, k2, k3, k4, k5, k6⟩ := hview;subst hN;simp only [Nat.sub_zero, List.drop_zero, List.take_length] at e1 k1 k4 k5 k6
   have hv : TRel w (owned M0 ρ') ρ (.g (.sl k xs)) v := by
    refine ⟨a', cap, e1, k1, k2, k5, ?_⟩
    rcases k6 with k6 | ⟨b', o, cur, news, rfl, ⟨ow2, q0, rfl⟩, q1, q2, q3⟩
    ·have : xs = [] := List.eq_nil_of_length_eq_zero k6;subst this;exact .inl ⟨rfl, fun ha => (k3 ha).1⟩
    ·exact .inr ⟨ow2.b, o, rfl, hno ow2 q0, cells_of_fits q1 (q2.mono (fun _ _ _ => rfl) (fun b _ => hM b)) q3⟩
   refine ⟨ow, ty, vs, by rw [hρ i hi]; exact g1, g2, g3, ?_⟩;have hf : TFits w (owned M0 ρ) ρ (cs.set p .any) vs := TFits.forget p g4
   have hf' : TFits w (owned M0 ρ') ρ' (cs.set p .any) vs := hf.sub (m := m) hM hρ fun c hc' => by
    have hall : ∀ c ∈ cs.set p (.g (.sl k xs)), refsIn m c = true := by simpa [blkIn] using hcl
    rcases List.mem_or_eq_of_mem_set hc' with h | rfl
    ·obtain ⟨j, hj⟩ := List.mem_iff_getElem?.1 hc'
     by_cases hjp : p = j
     ·subst hjp;have hlt : p < cs.length := (List.getElem?_eq_some_iff.1 hc).1;rw [List.getElem?_set_self hlt] at hj
      cases hj; rfl
     ·rw [List.getElem?_set_ne hjp] at hj;exact hall c (List.mem_iff_getElem?.2 ⟨j, by rw [List.getElem?_set_ne hjp]; exact hj⟩)
    ·rfl
   have := TFits.give (tv := .g (.sl k xs)) (ρ := ρ') (show TRel w (owned M0 ρ') ρ' (.g (.sl k xs)) v from hv) p hf' h4
   rwa [List.set_set] at this
  ·have := hm.blk i blk' hold
   cases blk' with
   | box cs =>
    obtain ⟨ow, e, vs, g1, g2, g3, g4⟩ := this;have hcl := h3.2 (i, .box cs) (lookO_mem _ hb0);exact ⟨ow, e, vs, by rw [hρ i hi]; exact g1, g2, g3, g4.sub hM hρ (by simpa [blkIn] using hcl)⟩
   | arr e k xs =>
    rcases this with ⟨g1, g2⟩ | ⟨ow, vs, g1, g2, g3, g4, g5, g6, g7⟩
    ·exact .inl ⟨by rw [hρ i hi]; exact g1, g2⟩
    ·exact .inr ⟨ow, vs, by rw [hρ i hi]; exact g1, g2, g3, g4, g5, g6, g7.mono (fun _ _ _ => rfl) (fun b _ => hM b)⟩
   | mp es =>
    obtain ⟨ow, en, cl, g1, g2, g3, g4⟩ := this;exact ⟨ow, en, cl, by rw [hρ i hi]; exact g1, g2, g3.mono (fun _ _ _ => rfl) (fun b _ => hM b), g4⟩
   | obj o =>
    obtain ⟨ow, g1, g2, g3⟩ := this;exact ⟨ow, by rw [hρ i hi]; exact g1, g2, g3⟩
   | mit es seen =>
    obtain ⟨ow, g1, g2, g3⟩ := this;exact ⟨ow, by rw [hρ i hi]; exact g1, g2, g3.mono rfl (fun _ _ _ => rfl) (fun b _ => hM b)⟩
   | gone => trivial
 ·intro i;show TRel _ _ _ (lookT l i) _
  rcases weakL_get h1 i with h4 | ⟨h4, v, h5, h6⟩
  ·rw [h4]; trivial
  ·rw [h4];refine (ht i).sub (m := m) ?_ hM hρ;rw [← h4, h6];exact h3.1 (i, v) h5
end
section
variable {E : Env}
end
theorem refsM {id : Nat} {mem : Mem} (h : (mem.all fun p => Nat.beq p.1 id || (match lookO mem p.1 with | some b => b.noref (some id) | none => true)) = true) : ∀ i blk, lookO mem i = some blk → i ≠ id → blk.noref (some id) = true := by
 intro i blk hb hne;have := List.all_eq_true.1 h (i, blk) (lookO_mem _ hb);simp only [Bool.or_eq_true, hb] at this
 rcases this with h1 | h1
 ·exact absurd (Nat.eq_of_beq_eq_true h1) hne
 ·exact h1
section
variable {E : Env} {w0 : World} {M0 : Nat → Prop}
instance (pre : List G) (id k hi : Nat) : PartT (.agl pre id k hi) (pre.map TV.g ++ [.osl id k 0 hi]) := ⟨fun {w M ρ v} h => by
 obtain ⟨vs, ow, p, rfl, h1, h2, h3, h4⟩ := h;show TFits w M ρ _ (vs ++ [_]).toArray.toList;have h5 := tfits_of_fits (ρ := ρ) h1
 have h6 : ∀ {cs : List TV} {us : List Value}, TFits w M ρ cs us → TFits w M ρ (cs ++ [.osl id k 0 hi]) (us ++ [Value.slice (some ⟨ow.b, p, none⟩) hi ow.cap]) := by
  intro cs
  induction cs with
  | nil =>
   intro us hu
   cases us with
   | nil => exact ⟨⟨.inr ⟨ow, h2, Nat.zero_le _, h3, p, by simp, fun h => by simpa using h4 h⟩, rfl⟩, trivial⟩
   | cons _ _ => exact hu.elim
  | cons c cs ih =>
   intro us hu
   cases us with
   | nil => exact hu.elim
   | cons u us => exact ⟨hu.1, ih hu.2⟩
 simpa using h6 h5⟩
theorem fits_snoc {w : World} {M : Nat → Prop} {g : G} : ∀ {pre : List G} {vs : List Value}, Fits w M (pre ++ [g]) vs → ∃ us u, vs = us ++ [u] ∧ Fits w M pre us ∧ g.p w M u
 | [], [u], h => ⟨[], u, rfl, trivial, h.1.1⟩
 | [], [], h => h.elim
 | [], _ :: _ :: _, h => h.2.elim
 | c :: pre, v :: vs, h => by
  obtain ⟨us, u, rfl, h1, h2⟩ := fits_snoc h.2;exact ⟨v :: us, u, rfl, ⟨h.1, h1⟩, h2⟩
 | _ :: _, [], h => h.elim
theorem eff_buildL {o : Oper} {ev : Operand → TV} {t : TypeId} {x : Operand} {i id k hi : Nat} {zs : List Value} {pl : List (Nat × Nat)} {pre : List G} (ho : o.op = .build t #[(i, x)])
  (hz : zeroK E.P t = some zs) (hz1 : zs.all Value.oneCell' = true) (hp : placesK E.P t = some pl) (hx : ev x = .osl id k 0 hi) (hpos : 0 < hi) (hf : ∀ g : G, fillG (pl.toArray[·]?) (zs.map G.lit) [(i, [g])] = some (pre ++ [g])) (mem : Mem) : Eff E o mem ev (.agl pre id k hi) :=
 eff_same (fun w M ρ e he => by
  have hxv := he x (by rw [ho]; simp [Op.operands]);rw [hx] at hxv
  rcases hxv with ⟨_, _, h0, _⟩ | ⟨ow, g1, _, g2, p, g3, g4⟩
  ·omega
  have g3 : e x = .slice (some ⟨ow.b, p, none⟩) hi ow.cap := by simpa using g3
  have g4 : 0 < ow.cap → p = ow.o := fun h => by simpa using g4 h
  unfold zeroK at hz
  cases hi' : E.P.info? t with
  | none => simp [hi'] at hz
  | some it =>
   cases hzz : it.zero with
   | none => simp [hi', hzz] at hz
   | some z =>
    simp [hi', hzz] at hz
    unfold placesK at hp
    split at hp
    ·rename_i fs hfs
     have hlits : Fits w M (zs.map G.lit) z.cells.toList := by rw [hz]; exact fits_lits (by simpa using hz1)
     have hone : (e x).oneCell' = true := by rw [g3]; rfl
     have hpi : PartIs (G.lit (e x)) [G.lit (e x)] := by
      refine ⟨?_⟩;intro w' M' v h;have hv : v = e x := h
      have hone' : v.oneCell' = true := by rw [hv]; exact hone
      rw [cells_one hone'];exact ⟨⟨h, hone'⟩, trivial⟩
     have hq : PartsG (fun _ => TV.g (G.lit (e x))) [(i, x)] [(i, [G.lit (e x)])] := ⟨rfl, ⟨G.lit (e x), rfl, ⟨hpi⟩⟩, trivial⟩
     obtain ⟨vout, h1, h2⟩ := fill_fits (w := w) (M := M) (ρ := ρ) (e := e) (ev := fun _ => TV.g (G.lit (e x))) (vcells := z.cells) hq (fun q hq => by
      have : q = (i, x) := by simpa using hq
      subst this
      exact (show (G.lit (e x)).p w M (e x) from rfl)) hlits (hf (G.lit (e x)))
     obtain ⟨us, u, h3, h4, h5⟩ := fits_snoc h2;have h5 : u = e x := h5;refine ⟨.agg vout, ?_, us, ow, p, ?_, h4, g1, g2, g4⟩
     ·have hb : E.P.built t (#[(i, x)].map fun (i, x) => (i, e x)).toList = some vout := by
       unfold Program.built;simp only [hi', hfs, hzz, hp];rw [Array.toList_map];exact h1
      have := run_build (P := E.P) w t (#[(i, x)].map fun (i, x) => (i, e x)) vout hb;simp only [execOp, ho];rw [Sem.run_bind, this]
      rfl
     ·rw [← g3, ← h5, ← h3]
    ·cases hp) mem
theorem eff_forget {o : Oper} {mem mem' : Mem} {ev : Operand → TV} {r : TV} {kill : Option Nat} (b p : Nat) {cs : List TV} (hb : lookO mem b = some (.box cs)) (h : EffW E o ((b, .box (cs.set p .any)) :: mem) ev r mem' kill) : EffW E o mem ev r mem' kill := by
 intro w0 M0 ρ w e hm hx;refine h w0 M0 ρ w e ?_ hx;refine ⟨hm.below, hm.m0, hm.glob, ?_, hm.fresh, hm.inj, hm.keep, hm.lentM, ?_⟩
 ·intro id x h;obtain ⟨blk, hk⟩ := hm.dom id x h
  cases hbq : Nat.beq b id with
  | true => exact ⟨_, by simp only [lookO, hbq]; rfl⟩
  | false => exact ⟨blk, by simp only [lookO, hbq]; exact hk⟩
 ·intro id blk h;simp only [lookO] at h
  cases hbq : Nat.beq b id with
  | true =>
   rw [hbq] at h;have := Nat.eq_of_beq_eq_true hbq;subst this
   have : blk = .box (cs.set p .any) := by simpa using h.symm
   subst this;obtain ⟨ow, ty, vs, g1, g2, g3, g4⟩ := hm.blk b _ hb;exact ⟨ow, ty, vs, g1, g2, g3, TFits.forget p g4⟩
  | false =>
   rw [hbq] at h;exact hm.blk id blk h
end
section
variable {E : Env} {w0 : World} {M0 : Nat → Prop}
def G.ifP (P : Prop) : G := ⟨fun _ _ v => ∃ b : Bool, v = .bool b ∧ (b = true → P), fun h _ _ => h⟩
theorem eff_eqNil {α : Type} {f : α → List G} {l : List α} {o : Oper} {ev : Operand → TV} {t t' el : TypeId} {x y : Operand} {k : Nat} (ho : o.op = .binOp .eql t x y t') (ht : E.P.underlying t = some (.slice el)) (hx : ev x = .g (.sl k (l.map f))) (hy : ev y = .g (.lit (.slice none 0 0))) (mem : Mem) : Eff E o mem ev (.g (.ifP (l = []))) :=
 eff_same (fun w M ρ e he => by
  have h1 := he x (by rw [ho]; simp [Op.operands]);rw [hx] at h1;have h2 := he y (by rw [ho]; simp [Op.operands]);rw [hy] at h2;have h2 : e y = .slice none 0 0 := h2;obtain ⟨a, cap, h3, h4, h5, h6, h7⟩ := h1;rw [List.length_map] at h3 h4;have hq := Go.Ex.run_eqNil (P := E.P) w 9999 t el a l.length cap 0 0 ht;refine ⟨.bool a.isNone, ?_, a.isNone, rfl, fun ha => ?_⟩
  ·simp [execOp, ho, h3, h2, eqGuard, binOp, Op.equal, Op.maxDepth, hq]
  ·have ha : a = none := by cases a <;> simp_all
   rcases h7 with ⟨_, h8⟩ | ⟨b, oo, h8, _⟩
   ·have := h8 ha;exact List.eq_nil_of_length_eq_zero (by omega)
   ·rw [ha] at h8; cases h8) mem
theorem aw_condP {c : Operand} {x y : Code} {P : Prop} {Q : Exit → ASt → Prop} {s : ASt} (hb : s.eval E c = .g (.ifP P)) (ht : P → AWp E w0 M0 x Q s) (hf : AWp E w0 M0 y Q s) : AWp E w0 M0 (.cond c x y) Q s := by
 intro a w ha;obtain ⟨ρ, _, hx⟩ := ha.rel;have hc := hx c;rw [hb] at hc;obtain ⟨b, hc, hP⟩ := hc;have hc' : a.eval c = .bool b := hc
 cases b with
 | true => exact wpIn_cond_true hc' (ht (hP rfl) a w ha)
 | false => exact wpIn_cond_false hc' (hf a w ha)
end
end Go.Sim
set_option maxRecDepth 10000
namespace Go.Sim
open Go.Proofs
theorem n1150 {g : List (Nat × List Value)} (a0 : List S1079) (hb : a0.length ≤ 1000) : ConN (EG g) 106 [G.sl 7 (List.map S1079.c a0)] 44 7 (List.map S1079.c a0) := by
 refine conN_of_aw Tryz.func106 rfl rfl fun w0 M0 => ?_;refine aw_seq ?_;refine aw_region [.p] ?_;refine st rfl rfl (eff_assigng rfl rfl) rfl ?_;refine st_nil ?_;refine aw_seq ?_;refine aw_seq ?_;refine aw_region [.p, .p] ?_;refine st rfl rfl (eff_moveg rfl rfl) rfl ?_;refine st rfl rfl (eff_eqNil (f := S1079.c) (l := a0) rfl Tryz.underlying25 rfl rfl) rfl ?_;refine st_nil ?_;refine aw_condP rfl (fun h => ?_) ?_
 ·refine aw_seq ?_;refine aw_region [.p] ?_;refine st rfl rfl (eff_assigng rfl rfl) rfl ?_;refine st_nil ?_;refine aw_ret ?_;exact doneN_nil (E := EG g) rfl rfl (by rw [h]; rfl)
 ·refine aw_skip ?_;refine aw_seq ?_;refine aw_region [.w, .p, .k, .p] ?_;refine st_w rfl rfl (eff_buildSO (xs := List.map S1079.c []) 5 rfl Tryz.underlying25 ty1080 z1080 rfl ps_nil rfl (by simp) (by decide) rfl) rfl ?_;refine st rfl rfl (eff_moveg rfl rfl) rfl ?_;refine st_k rfl rfl (eff_appL (f := S1079.c) (out := []) (new := a0) rfl app1025 rfl rfl (src_eq rfl (src_sl (by decide) (by simp [S1079.c]))) (refsN rfl) (by simp; omega)) rfl ?_;refine st rfl rfl (eff_assignO rfl rfl) rfl ?_;refine st_nil ?_;refine aw_ret ?_;exact doneN_own (E := EG g) rfl rfl rfl (List.length_map ..)
end Go.Sim
set_option maxRecDepth 10000
namespace Go.Sim
open Go.Proofs
def s1116 (a0 : S1063) (a1 : S1079) : Bool :=
 ((decide (a0.Terminal = (⟨#[]⟩))) || (decide (a0.Terminal = a1.Terminal))) && ((decide (a0.Kind = (⟨#[84]⟩))) || (decide (a0.Kind = a1.Kind)))
theorem c1116 {g : List (Nat × List Value)} (a0 : S1063) (a1 : S1079)    : Con (EG g) 66 [G.agg [G.str a0.Terminal, G.str a0.Kind, G.int a0.Length, G.int a0.Step, G.int a0.Most], G.agg [G.int a1.Moment, G.str a1.Kind, G.str a1.Terminal, G.int a1.Seats, G.int a1.Size, G.int a1.Noise, G.str a1.Name]] (G.bool (s1116 a0 a1)) := by
 generalize hR : s1116 a0 a1 = R;unfold s1116 at hR;refine con_of_aw Tryz.func66 rfl rfl fun w0 M0 => ?_;refine aw_seq ?_;refine aw_region [.p, .p, .p] ?_;refine st rfl rfl (eff_box rfl rfl) rfl ?_;refine st rfl rfl (eff_box rfl rfl) rfl ?_;refine st rfl rfl (eff_assigng rfl rfl) rfl ?_;refine st_nil ?_;refine aw_seq ?_;refine aw_region [.p, .p, .p, .p, .p, .p, .p, .p, .p, .p, .p, .p, .p, .p, .p, .p, .p, .p, .p, .p, .p, .p, .p] ?_;refine st rfl rfl (eff_fieldAddr rfl fl1064_0 rfl) rfl ?_;refine st rfl rfl (eff_load rfl ty9 rfl) rfl ?_;refine st rfl rfl (eff_seq rfl rfl rfl) rfl ?_;refine st rfl rfl (eff_moveg rfl rfl) rfl ?_;refine st_g rfl rfl rfl (gb_bool _ _) (fun h => eff_fieldAddr rfl fl1064_0 rfl) rfl ?_;refine st_g rfl rfl rfl (gb_bool _ _) (fun h => eff_load rfl ty9 (gd h rfl)) rfl ?_;refine st_g rfl rfl rfl (gb_bool _ _) (fun h => eff_fieldAddr rfl fl1080_2 rfl) rfl ?_;refine st_g rfl rfl rfl (gb_bool _ _) (fun h => eff_load rfl ty9 (gd h rfl)) rfl ?_;refine st_g rfl rfl rfl (gb_bool _ _) (fun h => eff_seq rfl (gd h rfl) (gd h rfl)) rfl ?_;refine st rfl rfl (eff_or rfl rfl rfl rfl) rfl ?_;refine st rfl rfl (eff_moveg rfl rfl) rfl ?_;refine st_g rfl rfl rfl (gb_bool _ _) (fun h => eff_fieldAddr rfl fl1064_1 rfl) rfl ?_;refine st_g rfl rfl rfl (gb_bool _ _) (fun h => eff_load rfl ty9 (gd h rfl)) rfl ?_;refine st_g rfl rfl rfl (gb_bool _ _) (fun h => eff_seq rfl (gd h rfl) rfl) rfl ?_;refine st_g rfl rfl rfl (gb_bool _ _) (fun h => eff_moveg rfl (gd h rfl)) rfl ?_;refine st_g rfl rfl rfl (gb_if _ _ _) (fun h => eff_fieldAddr rfl fl1064_1 rfl) rfl ?_;refine st_g rfl rfl rfl (gb_if _ _ _) (fun h => eff_load rfl ty9 (gd h rfl)) rfl ?_;refine st_g rfl rfl rfl (gb_if _ _ _) (fun h => eff_fieldAddr rfl fl1080_1 rfl) rfl ?_;refine st_g rfl rfl rfl (gb_if _ _ _) (fun h => eff_load rfl ty9 (gd h rfl)) rfl ?_;refine st_g rfl rfl rfl (gb_if _ _ _) (fun h => eff_seq rfl (gd h rfl) (gd h rfl)) rfl ?_;refine st_g rfl rfl rfl (gb_bool _ _) (fun h => eff_or rfl (gd h rfl) rfl (gd2 h rfl)) rfl ?_;refine st rfl rfl (eff_and rfl rfl rfl rfl) rfl ?_;refine st rfl rfl (eff_assigng rfl rfl) rfl ?_;refine st_nil ?_;refine aw_ret ?_;subst hR;exact res_c rfl (rv_g rfl)
def s1151 (a0 : S1079) (a1 : S1063) : Bool :=
 !(s1116 a1 a0)
theorem c1151 {g : List (Nat × List Value)} (a0 : S1079) (a1 : S1063)    : Con (EG g) 107 [G.agg [G.int a0.Moment, G.str a0.Kind, G.str a0.Terminal, G.int a0.Seats, G.int a0.Size, G.int a0.Noise, G.str a0.Name], G.ref [G.str a1.Terminal, G.str a1.Kind, G.int a1.Length, G.int a1.Step, G.int a1.Most]] (G.bool (s1151 a0 a1)) := by
 generalize hR : s1151 a0 a1 = R;unfold s1151 at hR;refine con_of_aw Tryz.func107 rfl rfl fun w0 M0 => ?_;refine aw_seq ?_;refine aw_region [.p, .p] ?_;refine st rfl rfl (eff_box rfl rfl) rfl ?_;refine st rfl rfl (eff_assigng rfl rfl) rfl ?_;refine st_nil ?_;refine aw_seq ?_;refine aw_region [.p, .p, .p, .p, .p] ?_;refine st rfl rfl (eff_loadA rfl ty1064 rfl rfl rfl) rfl ?_;refine st rfl rfl (eff_loadA rfl ty1080 rfl rfl rfl) rfl ?_;refine st rfl rfl (eff_call rfl K1116 rfl (c1116 a1 a0) (ag_cons rfl (ag_cons rfl ag_nil))) rfl ?_;refine st rfl rfl (eff_not rfl rfl) rfl ?_;refine st rfl rfl (eff_assigng rfl rfl) rfl ?_;refine st_nil ?_;refine aw_ret ?_;subst hR;exact res_c rfl (rv_g rfl)
def s202 (a0 : Int) : Bool :=
 decide (a0 ≠ a0)
theorem c202 {g : List (Nat × List Value)} (a0 : Int)    : Con (EG g) 143 [G.int a0] (G.bool (s202 a0)) := by
 generalize hR : s202 a0 = R;unfold s202 at hR;refine con_of_aw Tryz.func143 rfl rfl fun w0 M0 => ?_;refine aw_seq ?_;refine aw_region [.p] ?_;refine st rfl rfl (eff_assigng rfl rfl) rfl ?_;refine st_nil ?_;refine aw_seq ?_;refine aw_region [.p, .p, .p, .p] ?_;refine st rfl rfl (eff_moveg rfl rfl) rfl ?_;refine st rfl rfl (eff_moveg rfl rfl) rfl ?_;refine st rfl rfl (eff_neq rfl rfl rfl) rfl ?_;refine st rfl rfl (eff_assigng rfl rfl) rfl ?_;refine st_nil ?_;refine aw_ret ?_;subst hR;exact res_c rfl (rv_g rfl)
def s167 (a0 : Int) (a1 : Int) : Int :=
 (bif (s202 a0) then (bif (s202 a1) then 0 else (-1)) else (bif (s202 a1) then 1 else (bif decide (a0 < a1) then (-1) else (bif decide (a1 < a0) then 1 else 0))))
theorem c167 {g : List (Nat × List Value)} (a0 : Int) (a1 : Int)    : Con (EG g) 110 [G.int a0, G.int a1] (G.int (s167 a0 a1)) := by
 generalize hR : s167 a0 a1 = R;unfold s167 at hR;refine con_of_aw Tryz.func110 rfl rfl fun w0 M0 => ?_;refine aw_seq ?_;refine aw_region [.p] ?_;refine st rfl rfl (eff_assigng rfl rfl) rfl ?_;refine st_nil ?_;refine aw_seq ?_;refine aw_region [.p, .p, .p] ?_;refine st rfl rfl (eff_moveg rfl rfl) rfl ?_;refine st rfl rfl (eff_call rfl K202 rfl (c202 a0) (ag_cons rfl ag_nil)) rfl ?_;refine st rfl rfl (eff_assigng rfl rfl) rfl ?_;refine st_nil ?_;refine aw_seq ?_;refine aw_region [.p, .p, .p] ?_;refine st rfl rfl (eff_moveg rfl rfl) rfl ?_;refine st rfl rfl (eff_call rfl K202 rfl (c202 a1) (ag_cons rfl ag_nil)) rfl ?_;refine st rfl rfl (eff_assigng rfl rfl) rfl ?_;refine st_nil ?_;refine aw_seq ?_;refine aw_seq ?_;refine aw_region [.p] ?_;refine st rfl rfl (eff_moveg rfl rfl) rfl ?_;refine st_nil ?_;refine aw_cond _ rfl (fun h1 => ?_) (fun h1 => ?_)
 ·replace h1 : ((s202 a0)) = true := h1;replace hR := condT hR h1;(try simp only [Bool.or_eq_true, Bool.and_eq_true, Bool.or_eq_false_iff, Bool.and_eq_false_iff, Bool.not_eq_true', Bool.not_eq_false', decide_eq_true_eq, decide_eq_false_iff_not] at h1);refine aw_seq ?_;refine aw_seq ?_;refine aw_region [.p] ?_;refine st rfl rfl (eff_moveg rfl rfl) rfl ?_;refine st_nil ?_;refine aw_cond _ rfl (fun h2 => ?_) (fun h2 => ?_)
  ·replace h2 : ((s202 a1)) = true := h2;replace hR := condT hR h2;(try simp only [Bool.or_eq_true, Bool.and_eq_true, Bool.or_eq_false_iff, Bool.and_eq_false_iff, Bool.not_eq_true', Bool.not_eq_false', decide_eq_true_eq, decide_eq_false_iff_not] at h2);refine aw_seq ?_;refine aw_region [.p] ?_;refine st rfl rfl (eff_assigng rfl rfl) rfl ?_;refine st_nil ?_;refine aw_ret ?_;subst hR;exact res_c rfl (rv_g rfl)
  ·replace h2 : ((s202 a1)) = false := h2;replace hR := condF hR h2;(try simp only [Bool.or_eq_true, Bool.and_eq_true, Bool.or_eq_false_iff, Bool.and_eq_false_iff, Bool.not_eq_true', Bool.not_eq_false', decide_eq_true_eq, decide_eq_false_iff_not] at h2);refine aw_skip ?_;refine aw_seq ?_;refine aw_region [.p] ?_;refine st rfl rfl (eff_assigng rfl rfl) rfl ?_;refine st_nil ?_;refine aw_ret ?_;subst hR;exact res_c rfl (rv_g rfl)
 ·replace h1 : ((s202 a0)) = false := h1;replace hR := condF hR h1;(try simp only [Bool.or_eq_true, Bool.and_eq_true, Bool.or_eq_false_iff, Bool.and_eq_false_iff, Bool.not_eq_true', Bool.not_eq_false', decide_eq_true_eq, decide_eq_false_iff_not] at h1);refine aw_skip ?_;refine aw_seq ?_;refine aw_seq ?_;refine aw_region [.p] ?_;refine st rfl rfl (eff_moveg rfl rfl) rfl ?_;refine st_nil ?_;refine aw_cond _ rfl (fun h3 => ?_) (fun h3 => ?_)
  ·replace h3 : ((s202 a1)) = true := h3;replace hR := condT hR h3;(try simp only [Bool.or_eq_true, Bool.and_eq_true, Bool.or_eq_false_iff, Bool.and_eq_false_iff, Bool.not_eq_true', Bool.not_eq_false', decide_eq_true_eq, decide_eq_false_iff_not] at h3);refine aw_seq ?_;refine aw_region [.p] ?_;refine st rfl rfl (eff_assigng rfl rfl) rfl ?_;refine st_nil ?_;refine aw_ret ?_;subst hR;exact res_c rfl (rv_g rfl)
  ·replace h3 : ((s202 a1)) = false := h3;replace hR := condF hR h3;(try simp only [Bool.or_eq_true, Bool.and_eq_true, Bool.or_eq_false_iff, Bool.and_eq_false_iff, Bool.not_eq_true', Bool.not_eq_false', decide_eq_true_eq, decide_eq_false_iff_not] at h3);refine aw_skip ?_;refine aw_seq ?_;refine aw_seq ?_;refine aw_region [.p, .p, .p] ?_;refine st rfl rfl (eff_moveg rfl rfl) rfl ?_;refine st rfl rfl (eff_moveg rfl rfl) rfl ?_;refine st rfl rfl (eff_lss rfl rfl rfl) rfl ?_;refine st_nil ?_;refine aw_cond _ rfl (fun h4 => ?_) (fun h4 => ?_)
   ·replace h4 : (decide (a0 < a1)) = true := h4;replace hR := condT hR h4;(try simp only [Bool.or_eq_true, Bool.and_eq_true, Bool.or_eq_false_iff, Bool.and_eq_false_iff, Bool.not_eq_true', Bool.not_eq_false', decide_eq_true_eq, decide_eq_false_iff_not] at h4);refine aw_seq ?_;refine aw_region [.p] ?_;refine st rfl rfl (eff_assigng rfl rfl) rfl ?_;refine st_nil ?_;refine aw_ret ?_;subst hR;exact res_c rfl (rv_g rfl)
   ·replace h4 : (decide (a0 < a1)) = false := h4;replace hR := condF hR h4;(try simp only [Bool.or_eq_true, Bool.and_eq_true, Bool.or_eq_false_iff, Bool.and_eq_false_iff, Bool.not_eq_true', Bool.not_eq_false', decide_eq_true_eq, decide_eq_false_iff_not] at h4);refine aw_skip ?_;refine aw_seq ?_;refine aw_seq ?_;refine aw_region [.p, .p, .p] ?_;refine st rfl rfl (eff_moveg rfl rfl) rfl ?_;refine st rfl rfl (eff_moveg rfl rfl) rfl ?_;refine st rfl rfl (eff_gtr rfl rfl rfl) rfl ?_;refine st_nil ?_;refine aw_cond _ rfl (fun h5 => ?_) (fun h5 => ?_)
    ·replace h5 : (decide (a1 < a0)) = true := h5;replace hR := condT hR h5;(try simp only [Bool.or_eq_true, Bool.and_eq_true, Bool.or_eq_false_iff, Bool.and_eq_false_iff, Bool.not_eq_true', Bool.not_eq_false', decide_eq_true_eq, decide_eq_false_iff_not] at h5);refine aw_seq ?_;refine aw_region [.p] ?_;refine st rfl rfl (eff_assigng rfl rfl) rfl ?_;refine st_nil ?_;refine aw_ret ?_;subst hR;exact res_c rfl (rv_g rfl)
    ·replace h5 : (decide (a1 < a0)) = false := h5;replace hR := condF hR h5;(try simp only [Bool.or_eq_true, Bool.and_eq_true, Bool.or_eq_false_iff, Bool.and_eq_false_iff, Bool.not_eq_true', Bool.not_eq_false', decide_eq_true_eq, decide_eq_false_iff_not] at h5);refine aw_skip ?_;refine aw_seq ?_;refine aw_region [.p] ?_;refine st rfl rfl (eff_assigng rfl rfl) rfl ?_;refine st_nil ?_;refine aw_ret ?_;subst hR;exact res_c rfl (rv_g rfl)
def s1153 (a0 : S1079) (a1 : S1079) : Int :=
 (s167 a0.Moment a1.Moment)
theorem c1153 {g : List (Nat × List Value)} (a0 : S1079) (a1 : S1079)    : Con (EG g) 109 [G.agg [G.int a0.Moment, G.str a0.Kind, G.str a0.Terminal, G.int a0.Seats, G.int a0.Size, G.int a0.Noise, G.str a0.Name], G.agg [G.int a1.Moment, G.str a1.Kind, G.str a1.Terminal, G.int a1.Seats, G.int a1.Size, G.int a1.Noise, G.str a1.Name]] (G.int (s1153 a0 a1)) := by
 generalize hR : s1153 a0 a1 = R;unfold s1153 at hR;refine con_of_aw Tryz.func109 rfl rfl fun w0 M0 => ?_;refine aw_seq ?_;refine aw_region [.p, .p, .p] ?_;refine st rfl rfl (eff_box rfl rfl) rfl ?_;refine st rfl rfl (eff_box rfl rfl) rfl ?_;refine st rfl rfl (eff_assigng rfl rfl) rfl ?_;refine st_nil ?_;refine aw_seq ?_;refine aw_region [.p, .p, .p, .p, .p, .p] ?_;refine st rfl rfl (eff_fieldAddr rfl fl1080_0 rfl) rfl ?_;refine st rfl rfl (eff_load rfl ty3 rfl) rfl ?_;refine st rfl rfl (eff_fieldAddr rfl fl1080_0 rfl) rfl ?_;refine st rfl rfl (eff_load rfl ty3 rfl) rfl ?_;refine st rfl rfl (eff_call rfl K167 rfl (c167 a0.Moment a1.Moment) (ag_cons rfl (ag_cons rfl ag_nil))) rfl ?_;refine st rfl rfl (eff_assigng rfl rfl) rfl ?_;refine st_nil ?_;refine aw_ret ?_;subst hR;exact res_c rfl (rv_g rfl)
def s1192_l2 (rec1 : Int → (List S1079) → Option (List S1079)) (a1 : Int) (a3 : S1079 → S1079 → Option Int) (x1 : Int) : Nat → Int → (List S1079) → Option (List S1079)
 | 0, _, _ => none
 | k8 + 1, x5, x6 => bindO (bif decide (a1 < x5) then ixO x6 x5 else some default) fun y9 => bindO (bif decide (a1 < x5) then ixO x6 (x5 - 1) else some default) fun y10 => bindO (bif decide (a1 < x5) then a3 y9 y10 else some default) fun r11 => (bif (decide (a1 < x5)) && (decide (r11 < 0)) then bindO (ixO x6 (x5 - 1)) fun y12 => bindO (ixO x6 x5) fun y13 => bindO (ixO x6 x5) fun y14 => bindO (ixO (List.set x6 (Int.toNat x5) y12) (x5 - 1)) fun y15 => s1192_l2 rec1 a1 a3 x1 k8 (x5 - 1) (List.set (List.set x6 (Int.toNat x5) y12) (Int.toNat (x5 - 1)) y13) else rec1 (x1 + 1) x6)
def s1192_l1 (a1 : Int) (a3 : S1079 → S1079 → Option Int) : Nat → Int → (List S1079) → Option (List S1079)
 | 0, x1, x2 => some x2
 | k4 + 1, x1, x2 => s1192_l2 (fun z0_ z1_ => s1192_l1 a1 a3 k4 z0_ z1_) a1 a3 x1 (((x1 - a1).toNat) + 1) x1 x2
def s1192 (a0 : List S1079) (a1 : Int) (a2 : Int) (a3 : S1079 → S1079 → Option Int) : Option (List S1079) :=
 s1192_l1 a1 a3 ((a2 - (a1 + 1)).toNat) (a1 + 1) a0
theorem c1192 {g : List (Nat × List Value)} (a0 : List S1079) (a1 : Int) (a2 : Int) (a3 : S1079 → S1079 → Option Int) {R : List S1079} {N0 : Nat} (hN0 : List.length a0 = N0) {ca3 : G} {ia3 : FuncId} {ka3 : List G} (ha3 : FnIs ca3 ia3 ka3) (Ka3 : Known Tryz.prog ia3) (Ha3 : ∀ (x0 : S1079) (x1 : S1079) (r : Int), a3 x0 x1 = some r → Con (EG g) ia3 ([G.agg [G.int x0.Moment, G.str x0.Kind, G.str x0.Terminal, G.int x0.Seats, G.int x0.Size, G.int x0.Noise, G.str x0.Name], G.agg [G.int x1.Moment, G.str x1.Kind, G.str x1.Terminal, G.int x1.Seats, G.int x1.Size, G.int x1.Noise, G.str x1.Name]] ++ ka3) (G.int r)) (hA : 0 ≤ a1) (hA2 : a1 ≤ 1000000) (hB : a2 ≤ 1000000) (hR : s1192 a0 a1 a2 a3 = some R) : ConB (EG g) 168 [.osl 0 7 0 N0, .g (G.int a1), .g (G.int a2), .g (ca3)] [(0, .arr 44 7 (List.map S1079.c a0))] (G.tup []) [(0, .arr 44 7 (List.map S1079.c R))] := by
 unfold s1192 at hR;refine conB_of_aw Tryz.func168 rfl rfl rfl fun w0 M0 x => ?_;refine len_osl (f := S1079.c) (l := a0) 0 rfl fun hla0 => ?_;refine aw_seq ?_;refine aw_region [.p, .p, .p] ?_;refine st rfl rfl (eff_moveg rfl rfl) rfl ?_;refine st rfl rfl (eff_add rfl rfl rfl (by unfold I64; (try dsimp only); omega)) rfl ?_;refine st rfl rfl (eff_assigng rfl rfl) rfl ?_;refine st_nil ?_;refine aw_block ?_;refine aw_loop_g (γ := Nat × Int × (List S1079)) (fun g => ([(0, .osl 0 7 0 (N0)), (1, .g (G.int a1)), (2, .g (G.int a2)), (3, .g (ca3)), (8, .g (G.int g.2.1))], [(0, .arr 44 7 (List.map S1079.c g.2.2))])) (fun g => g.1 = (a2 - g.2.1).toNat ∧ (a1 + 1) ≤ g.2.1 ∧ List.length g.2.2 = N0 ∧ s1192_l1 a1 a3 g.1 g.2.1 g.2.2 = some R) (fun g => g.1) ⟨rfl, ((a2 - (a1 + 1)).toNat, a1 + 1, a0), ⟨rfl, rfl, rfl, rfl, rfl, trivial⟩, ⟨rfl, trivial⟩, rfl, ⟨rfl, (by first | omega | (dsimp only; omega) | simp), hN0, hR⟩, trivial⟩ ?_
 ·rintro ⟨k4, x1, x2⟩ ⟨hk1, iv1_0, ln3, hR⟩;replace hk1 : k4 = (a2 - x1).toNat := hk1;replace hR : s1192_l1 a1 a3 k4 x1 x2 = some R := hR;replace iv1_0 : (a1 + 1) ≤ x1 := iv1_0;replace ln3 : List.length x2 = N0 := ln3;refine aw_seq ?_;refine aw_seq ?_;refine aw_region [.p, .p, .p] ?_;refine st rfl rfl (eff_moveg rfl rfl) rfl ?_;refine st rfl rfl (eff_moveg rfl rfl) rfl ?_;refine st rfl rfl (eff_lss rfl rfl rfl) rfl ?_;refine st_nil ?_;refine aw_cond _ rfl (fun h1 => ?_) (fun h1 => ?_)
  ·replace h1 : (decide (x1 < a2)) = true := h1;replace h1 := decT h1;obtain ⟨k4, rfl⟩ : ∃ m, k4 = m + 1 := ⟨k4 - 1, by omega⟩;rw [s1192_l1] at hR;(try dsimp only at hR);refine aw_skip ?_;refine aw_seq ?_;refine aw_block ?_;refine aw_seq ?_;refine aw_region [.p, .p] ?_;refine st rfl rfl (eff_moveg rfl rfl) rfl ?_;refine st rfl rfl (eff_assigng rfl rfl) rfl ?_;refine st_nil ?_;refine aw_block ?_;refine aw_loop_g (γ := Nat × Int × (List S1079)) (fun g => ([(0, .osl 0 7 0 (N0)), (1, .g (G.int a1)), (2, .g (G.int a2)), (3, .g (ca3)), (8, .g (G.int x1)), (9, .g (G.int g.2.1))], [(0, .arr 44 7 (List.map S1079.c g.2.2))])) (fun g => (g.2.1 - a1).toNat < g.1 ∧ a1 ≤ g.2.1 ∧ g.2.1 ≤ 1000000 ∧ List.length g.2.2 = N0 ∧ s1192_l2 (fun z0_ z1_ => s1192_l1 a1 a3 k4 z0_ z1_) a1 a3 x1 g.1 g.2.1 g.2.2 = some R) (fun g => g.1) ⟨rfl, (((x1 - a1).toNat) + 1, x1, x2), ⟨rfl, rfl, rfl, rfl, rfl, rfl, trivial⟩, ⟨rfl, trivial⟩, rfl, ⟨Nat.lt_succ_self _, (by first | omega | (dsimp only; omega) | simp), (by first | omega | (dsimp only; omega) | simp), ln3, hR⟩, trivial⟩ ?_
   ·rintro ⟨k8, x5, x6⟩ ⟨hk2, iv2_0, iv2_1, ln7, hR⟩;replace hk2 : (x5 - a1).toNat < k8 := hk2;replace hR : s1192_l2 (fun z0_ z1_ => s1192_l1 a1 a3 k4 z0_ z1_) a1 a3 x1 k8 x5 x6 = some R := hR;replace iv2_0 : a1 ≤ x5 := iv2_0;replace iv2_1 : x5 ≤ 1000000 := iv2_1;replace ln7 : List.length x6 = N0 := ln7;obtain ⟨k8, rfl⟩ : ∃ m, k8 = m + 1 := ⟨k8 - 1, by omega⟩;rw [s1192_l2] at hR;(try dsimp only at hR);refine aw_seq ?_;refine aw_seq ?_;obtain ⟨y9, by9, hR⟩ := bindO_inv hR;obtain ⟨y10, by10, hR⟩ := bindO_inv hR;obtain ⟨r11, br11, hR⟩ := bindO_inv hR;refine aw_draw [.p, .p, .p, .p, .p, .p, .p, .p, .r, .p, .p, .p, .p, .r, .p, .p, .p] (by kernel_rfl) ?_;refine st rfl rfl (eff_moveg rfl rfl) rfl ?_;refine st rfl rfl (eff_moveg rfl rfl) rfl ?_;refine st rfl rfl (eff_gtr rfl rfl rfl) rfl ?_;refine st rfl rfl (eff_moveg rfl rfl) rfl ?_;refine st_g rfl rfl rfl (gb_bool _ _) (fun h => eff_moveg rfl rfl) rfl ?_;refine st_g rfl rfl rfl (gb_bool _ _) (fun h => eff_moveO rfl rfl) rfl ?_;refine st_g rfl rfl rfl (gb_bool _ _) (fun h => eff_moveg rfl rfl) rfl ?_;refine st_g rfl rfl rfl (gb_bool _ _) (fun h => eff_ixL rfl Tryz.underlying25 ty1080 (gd h rfl) (gd h rfl) (ixO_nn (condT1 by9 h)) (Nat.lt_of_lt_of_eq (get_lt (ixO_get (condT1 by9 h))) ln7)) rfl ?_;refine st_gr rfl rfl rfl (gb_bool _ _) (fun h => eff_ldEA (f := S1079.c) (l := x6) (a := y9) rfl ty1080 (gd h rfl) rfl (ixO_get (condT1 by9 h))) rfl ?_;refine st_g rfl rfl rfl (gb_bool _ _) (fun h => eff_moveO rfl rfl) rfl ?_;refine st_g rfl rfl rfl (gb_bool _ _) (fun h => eff_moveg rfl rfl) rfl ?_;refine st_g rfl rfl rfl (gb_bool _ _) (fun h => eff_sub rfl (gd h rfl) rfl (by unfold I64; (try dsimp only); omega)) rfl ?_;refine st_g rfl rfl rfl (gb_bool _ _) (fun h => eff_ixL rfl Tryz.underlying25 ty1080 (gd h rfl) (gd h rfl) (ixO_nn (condT1 by10 h)) (Nat.lt_of_lt_of_eq (get_lt (ixO_get (condT1 by10 h))) ln7)) rfl ?_;refine st_gr rfl rfl rfl (gb_bool _ _) (fun h => eff_ldEA (f := S1079.c) (l := x6) (a := y10) rfl ty1080 (gd h rfl) rfl (ixO_get (condT1 by10 h))) rfl ?_;refine st_g rfl rfl rfl (gb_bool _ _) (fun h => eff_callf rfl ha3 Ka3 (gd h rfl) (Con.lend (Ha3 y9 y10 _ (condT1 br11 h))) (ag_cons (gd h rfl) (ag_cons (gd h rfl) ag_nil))) rfl ?_;refine st_g rfl rfl rfl (gb_bool _ _) (fun h => eff_lss rfl (gd h rfl) rfl) rfl ?_;refine st rfl rfl (eff_and rfl rfl rfl rfl) rfl ?_;refine st_nil ?_;refine aw_cond _ rfl (fun h3 => ?_) (fun h3 => ?_)
    ·replace h3 : ((decide (a1 < x5)) && (decide (r11 < 0))) = true := h3;replace hR := condT hR h3;(try simp only [Bool.or_eq_true, Bool.and_eq_true, Bool.or_eq_false_iff, Bool.and_eq_false_iff, Bool.not_eq_true', Bool.not_eq_false', decide_eq_true_eq, decide_eq_false_iff_not] at h3);refine aw_skip ?_;refine aw_seq ?_;refine aw_block ?_;obtain ⟨y12, by12, hR⟩ := bindO_inv hR;obtain ⟨y13, by13, hR⟩ := bindO_inv hR;obtain ⟨y14, by14, hR⟩ := bindO_inv hR;obtain ⟨y15, by15, hR⟩ := bindO_inv hR;refine aw_draw [.p, .p, .p, .p, .p, .p, .p, .p, .p, .r, .p, .p, .p, .r, .p, .w, .p, .w] (by kernel_rfl) ?_;refine st rfl rfl (eff_moveO rfl rfl) rfl ?_;refine st rfl rfl (eff_moveg rfl rfl) rfl ?_;refine st rfl rfl (eff_moveO rfl rfl) rfl ?_;refine st rfl rfl (eff_moveg rfl rfl) rfl ?_;refine st rfl rfl (eff_sub rfl rfl rfl (by unfold I64; (try dsimp only); omega)) rfl ?_;refine st rfl rfl (eff_moveO rfl rfl) rfl ?_;refine st rfl rfl (eff_moveg rfl rfl) rfl ?_;refine st rfl rfl (eff_sub rfl rfl rfl (by unfold I64; (try dsimp only); omega)) rfl ?_;refine st rfl rfl (eff_ixL rfl Tryz.underlying25 ty1080 rfl rfl (ixO_nn by12) (Nat.lt_of_lt_of_eq (get_lt (ixO_get by12)) ln7)) rfl ?_;refine st_r rfl rfl (eff_ldEA (f := S1079.c) (l := x6) (a := y12) rfl ty1080 rfl rfl (ixO_get by12)) rfl ?_;refine st rfl rfl (eff_moveO rfl rfl) rfl ?_;refine st rfl rfl (eff_moveg rfl rfl) rfl ?_;refine st rfl rfl (eff_ixL rfl Tryz.underlying25 ty1080 rfl rfl (ixO_nn by13) (Nat.lt_of_lt_of_eq (get_lt (ixO_get by13)) ln7)) rfl ?_;refine st_r rfl rfl (eff_ldEA (f := S1079.c) (l := x6) (a := y13) rfl ty1080 rfl rfl (ixO_get by13)) rfl ?_;refine st rfl rfl (eff_ixL rfl Tryz.underlying25 ty1080 rfl rfl (ixO_nn by14) (Nat.lt_of_lt_of_eq (get_lt (ixO_get by14)) ln7)) rfl ?_;refine st_wn rfl rfl (eff_setL (f := S1079.c) (l := x6) (a' := y12) rfl ty1080 rfl rfl rfl (Nat.lt_of_lt_of_eq (Nat.lt_of_lt_of_eq (get_lt (ixO_get by14)) ln7) (Eq.symm ln7)) rfl (fun _ => rfl)) ?_;refine st rfl rfl (eff_ixL rfl Tryz.underlying25 ty1080 rfl rfl (ixO_nn by15) (Nat.lt_of_lt_of_eq (get_lt (ixO_get by15)) ((List.length_set ..).trans ln7))) rfl ?_;refine st_wn rfl rfl (eff_setL (f := S1079.c) (l := List.set x6 (Int.toNat x5) y12) (a' := y13) rfl ty1080 rfl rfl rfl (Nat.lt_of_lt_of_eq (Nat.lt_of_lt_of_eq (get_lt (ixO_get by15)) ((List.length_set ..).trans ln7)) (Eq.symm ((List.length_set ..).trans ln7))) rfl (fun _ => rfl)) ?_;refine st_nil ?_;refine aw_region [.p, .p, .p] ?_;refine st rfl rfl (eff_moveg rfl rfl) rfl ?_;refine st rfl rfl (eff_sub rfl rfl rfl (by unfold I64; (try dsimp only); omega)) rfl ?_;refine st rfl rfl (eff_assigng rfl rfl) rfl ?_;refine st_nil ?_;exact ⟨rfl, (k8, x5 - 1, List.set (List.set x6 (Int.toNat x5) y12) (Int.toNat (x5 - 1)) y13), ⟨(by simp only [List.length_set]; rfl), rfl, rfl, rfl, rfl, rfl, trivial⟩, ⟨rfl, trivial⟩, rfl, ⟨(by first | omega | (dsimp only; omega) | (simp at *; omega)), (by first | omega | (dsimp only; omega) | (simp at *; omega)), (by first | omega | (dsimp only; omega) | (simp at *; omega)), ((List.length_set ..).trans ((List.length_set ..).trans ln7)), hR⟩, by simp⟩
    ·replace h3 : ((decide (a1 < x5)) && (decide (r11 < 0))) = false := h3;replace hR := condF hR h3;(try simp only [Bool.or_eq_true, Bool.and_eq_true, Bool.or_eq_false_iff, Bool.and_eq_false_iff, Bool.not_eq_true', Bool.not_eq_false', decide_eq_true_eq, decide_eq_false_iff_not] at h3);refine aw_exit ?_;refine aw_region [.p, .p, .p] ?_;refine st rfl rfl (eff_moveg rfl rfl) rfl ?_;refine st rfl rfl (eff_add rfl rfl rfl (by (try dsimp only); unfold I64; omega)) rfl ?_;refine st rfl rfl (eff_assigng rfl rfl) rfl ?_;refine st_nil ?_;exact ⟨rfl, (k4, x1 + 1, x6), ⟨rfl, rfl, rfl, rfl, rfl, trivial⟩, ⟨rfl, trivial⟩, rfl, ⟨(by first | omega | (dsimp only; omega) | (simp at *; omega)), (by first | omega | (dsimp only; omega) | (simp at *; omega)), ln7, hR⟩, by simp⟩
  ·replace h1 : (decide (x1 < a2)) = false := h1;replace h1 := decF h1
   obtain rfl : k4 = 0 := by omega
   rw [s1192_l1] at hR;refine aw_exit ?_;obtain rfl := Option.some.inj hR;show ResOk _ _ _ _ ∧ MemL _ _;exact ⟨res0 rfl, ⟨rfl, trivial⟩⟩
theorem len1192_l2 (rec1 : Int → List S1079 → Option (List S1079)) (hrec : ∀ x l r, rec1 x l = some r → r.length = l.length) (a1 : Int) (a3 : S1079 → S1079 → Option Int) (x1 : Int) : ∀ (k : Nat) (x : Int) (l r : List S1079), s1192_l2 rec1 a1 a3 x1 k x l = some r → r.length = l.length
 | 0, _, _, _, h => by rw [s1192_l2] at h; cases h
 | k + 1, x, l, r, h => by
  rw [s1192_l2] at h;obtain ⟨y1, _, h⟩ := bindO_inv h;obtain ⟨y2, _, h⟩ := bindO_inv h;obtain ⟨y3, _, h⟩ := bindO_inv h
  cases hc : (decide (a1 < x) && decide (y3 < 0)) with
  | true =>
   have h := condT h hc;obtain ⟨y4, _, h⟩ := bindO_inv h;obtain ⟨y5, _, h⟩ := bindO_inv h;obtain ⟨y6, _, h⟩ := bindO_inv h;obtain ⟨y7, _, h⟩ := bindO_inv h;have := len1192_l2 rec1 hrec a1 a3 x1 k _ _ _ h
   simpa using this
  | false => exact hrec _ _ _ (condF h hc)
theorem len1192_l1 (a1 : Int) (a3 : S1079 → S1079 → Option Int) : ∀ (k : Nat) (x : Int) (l r : List S1079), s1192_l1 a1 a3 k x l = some r → r.length = l.length
 | 0, _, _, _, h => by rw [s1192_l1] at h; cases h; rfl
 | k + 1, x, l, r, h => by
  rw [s1192_l1] at h;exact len1192_l2 _ (fun x l r h => len1192_l1 a1 a3 k x l r h) a1 a3 x _ _ _ _ h
theorem len1192 {a0 : List S1079} {a1 a2 : Int} {a3 : S1079 → S1079 → Option Int} {R : List S1079} (h : s1192 a0 a1 a2 a3 = some R) : R.length = a0.length := len1192_l1 _ _ _ _ _ _ h
end Go.Sim
set_option maxRecDepth 10000
namespace Go.Sim
open Go.Proofs
def s1173_l2 (r6 : List S1079) : Nat → Int → Option (List S1079)
 | 0, _ => none
 | k8 + 1, x7 => some r6
def s1173_l1 (a1 : Int) (a2 : S1079 → S1079 → Option Int) : Nat → Int → Int → (List S1079) → Option (List S1079)
 | 0, _, _, _ => none
 | k5 + 1, x1, x2, x3 => bindO (s1192 x3 x1 a1 a2) fun r6 => s1173_l2 r6 ((0) + 1) 20
def s1173 (a0 : List S1079) (a1 : Int) (a2 : S1079 → S1079 → Option Int) : Option (List S1079) :=
 s1173_l1 a1 a2 ((0) + 1) 0 20 a0
theorem c1173 {g : List (Nat × List Value)} (a0 : List S1079) (a1 : Int) (a2 : S1079 → S1079 → Option Int) {R : List S1079} {N0 : Nat} (hN0 : List.length a0 = N0) {ca2 : G} {ia2 : FuncId} {ka2 : List G} (ha2 : FnIs ca2 ia2 ka2) (Ka2 : Known Tryz.prog ia2) (Ha2 : ∀ (x0 : S1079) (x1 : S1079) (r : Int), a2 x0 x1 = some r → Con (EG g) ia2 ([G.agg [G.int x0.Moment, G.str x0.Kind, G.str x0.Terminal, G.int x0.Seats, G.int x0.Size, G.int x0.Noise, G.str x0.Name], G.agg [G.int x1.Moment, G.str x1.Kind, G.str x1.Terminal, G.int x1.Seats, G.int x1.Size, G.int x1.Noise, G.str x1.Name]] ++ ka2) (G.int r)) (hA : 0 ≤ a1) (hB : a1 ≤ 12) (hR : s1173 a0 a1 a2 = some R) : ConB (EG g) 142 [.osl 0 7 0 N0, .g (G.int a1), .g (ca2)] [(0, .arr 44 7 (List.map S1079.c a0))] (G.tup []) [(0, .arr 44 7 (List.map S1079.c R))] := by
 unfold s1173 at hR;refine conB_of_aw Tryz.func142 rfl rfl rfl fun w0 M0 x => ?_;refine len_osl (f := S1079.c) (l := a0) 0 rfl fun hla0 => ?_;refine aw_seq ?_;refine aw_region [.p] ?_;refine st rfl rfl (eff_assigng rfl rfl) rfl ?_;refine st_nil ?_;refine aw_seq ?_;refine aw_region [.p, .p, .p] ?_;refine st rfl rfl (eff_moveg rfl rfl) rfl ?_;refine st rfl rfl (eff_assigng rfl rfl) rfl ?_;refine st rfl rfl (eff_assigng rfl rfl) rfl ?_;refine st_nil ?_;refine aw_seq ?_;refine aw_block ?_;refine aw_loop_g (γ := Nat × Int × Int × (List S1079)) (fun g => ([(0, .osl 0 7 0 (N0)), (1, .g (G.int a1)), (2, .g (ca2)), (6, .g (G.int 20)), (7, .g (G.int g.2.1)), (8, .g (G.int g.2.2.1))], [(0, .arr 44 7 (List.map S1079.c g.2.2.2))])) (fun g => 0 < g.1 ∧ g.2.1 = 0 ∧ g.2.2.1 = 20 ∧ List.length g.2.2.2 = N0 ∧ s1173_l1 a1 a2 g.1 g.2.1 g.2.2.1 g.2.2.2 = some R) (fun g => g.1) ⟨rfl, ((0) + 1, 0, 20, a0), ⟨rfl, rfl, rfl, rfl, rfl, rfl, trivial⟩, ⟨rfl, trivial⟩, rfl, ⟨Nat.lt_succ_self _, (by first | omega | (dsimp only; omega) | simp), (by first | omega | (dsimp only; omega) | simp), hN0, hR⟩, trivial⟩ ?_
 ·rintro ⟨k5, x1, x2, x3⟩ ⟨hk1, iv1_0, iv1_1, ln4, hR⟩;replace hk1 : 0 < k5 := hk1;replace hR : s1173_l1 a1 a2 k5 x1 x2 x3 = some R := hR;replace iv1_0 : x1 = 0 := iv1_0;replace iv1_1 : x2 = 20 := iv1_1;replace ln4 : List.length x3 = N0 := ln4;obtain ⟨k5, rfl⟩ : ∃ m, k5 = m + 1 := ⟨k5 - 1, by omega⟩;rw [s1173_l1] at hR;(try dsimp only at hR);refine aw_seq ?_;refine aw_seq ?_;refine aw_region [.p, .p, .p] ?_;refine st rfl rfl (eff_moveg rfl rfl) rfl ?_;refine st rfl rfl (eff_moveg rfl rfl) rfl ?_;refine st rfl rfl (eff_leq rfl rfl rfl) rfl ?_;refine st_nil ?_;refine aw_cond _ rfl (fun h1 => ?_) (fun h1 => ?_)
  ·(try simp only [Bool.or_eq_true, Bool.and_eq_true, Bool.or_eq_false_iff, Bool.and_eq_false_iff, Bool.not_eq_true', Bool.not_eq_false', decide_eq_true_eq, decide_eq_false_iff_not] at h1)
   exfalso; omega
  ·replace h1 : (decide (x2 ≤ a1)) = false := h1;(try simp only [Bool.or_eq_true, Bool.and_eq_true, Bool.or_eq_false_iff, Bool.and_eq_false_iff, Bool.not_eq_true', Bool.not_eq_false', decide_eq_true_eq, decide_eq_false_iff_not] at h1);refine aw_exit ?_;refine aw_seq ?_;obtain ⟨r6, br6, hR⟩ := bindO_inv hR;refine aw_region [.p, .p, .p, .p, .w] ?_;refine st rfl rfl (eff_moveO rfl rfl) rfl ?_;refine st rfl rfl (eff_moveg rfl rfl) rfl ?_;refine st rfl rfl (eff_moveg rfl rfl) rfl ?_;refine st rfl rfl (eff_moveg rfl rfl) rfl ?_;refine st_w rfl rfl (eff_callB1 0 0 rfl K1192 rfl (ConB.lend (c1192 x3 x1 a1 a2 ln4 ha2 Ka2 Ha2 (by first | assumption | omega | (simp [copyL_len]; done) | (simp [copyL_len]; omega)) (by first | assumption | omega | (simp [copyL_len]; done) | (simp [copyL_len]; omega)) (by first | assumption | omega | (simp [copyL_len]; done) | (simp [copyL_len]; omega)) br6)) (at_cons rfl rfl (at_cons rfl rfl (at_cons rfl rfl (at_cons rfl rfl at_nil)))) rfl rfl rfl) rfl ?_;refine st_nil ?_;refine aw_block ?_;refine aw_loop_g (γ := Nat × Int) (fun g => ([(0, .osl 0 7 0 (N0)), (1, .g (G.int a1)), (2, .g (ca2)), (6, .g (G.int g.2))], [(0, .arr 44 7 (List.map S1079.c r6))])) (fun g => 0 < g.1 ∧ g.2 = 20 ∧ s1173_l2 r6 g.1 g.2 = some R) (fun g => g.1) ⟨rfl, ((0) + 1, 20), ⟨rfl, rfl, rfl, rfl, trivial⟩, ⟨rfl, trivial⟩, rfl, ⟨Nat.lt_succ_self _, (by first | omega | (dsimp only; omega) | simp), hR⟩, trivial⟩ ?_
   ·rintro ⟨k8, x7⟩ ⟨hk2, iv2_0, hR⟩;replace hk2 : 0 < k8 := hk2;replace hR : s1173_l2 r6 k8 x7 = some R := hR;replace iv2_0 : x7 = 20 := iv2_0;obtain ⟨k8, rfl⟩ : ∃ m, k8 = m + 1 := ⟨k8 - 1, by omega⟩;rw [s1173_l2] at hR;(try dsimp only at hR);refine aw_seq ?_;refine aw_seq ?_;refine aw_region [.p, .p, .p] ?_;refine st rfl rfl (eff_moveg rfl rfl) rfl ?_;refine st rfl rfl (eff_moveg rfl rfl) rfl ?_;refine st rfl rfl (eff_lss rfl rfl rfl) rfl ?_;refine st_nil ?_;refine aw_cond _ rfl (fun h2 => ?_) (fun h2 => ?_)
    ·(try simp only [Bool.or_eq_true, Bool.and_eq_true, Bool.or_eq_false_iff, Bool.and_eq_false_iff, Bool.not_eq_true', Bool.not_eq_false', decide_eq_true_eq, decide_eq_false_iff_not] at h2)
     exfalso; omega
    ·replace h2 : (decide (x7 < a1)) = false := h2;(try simp only [Bool.or_eq_true, Bool.and_eq_true, Bool.or_eq_false_iff, Bool.and_eq_false_iff, Bool.not_eq_true', Bool.not_eq_false', decide_eq_true_eq, decide_eq_false_iff_not] at h2);refine aw_exit ?_;obtain rfl := Option.some.inj hR;show ResOk _ _ _ _ ∧ MemL _ _;exact ⟨res0 rfl, ⟨rfl, trivial⟩⟩
theorem len1173 {a0 : List S1079} {a1 : Int} {a2 : S1079 → S1079 → Option Int} {R : List S1079} (h : s1173 a0 a1 a2 = some R) : R.length = a0.length := by
 unfold s1173 at h;rw [s1173_l1] at h;obtain ⟨y1, h1, h⟩ := bindO_inv h;rw [s1173_l2] at h
 cases h
 exact len1192 h1
end Go.Sim
set_option maxRecDepth 10000
namespace Go.Sim
open Go.Proofs
def s1152 (a0 : List S1079) (a1 : S1079 → S1079 → Option Int) : Option (List S1079) :=
 bindO (s1173 a0 (List.length a0 : Int) a1) fun r1 => some r1
theorem c1152 {g : List (Nat × List Value)} (a0 : List S1079) (a1 : S1079 → S1079 → Option Int) {R : List S1079} {N0 : Nat} (hN0 : List.length a0 = N0) {ca1 : G} {ia1 : FuncId} {ka1 : List G} (ha1 : FnIs ca1 ia1 ka1) (Ka1 : Known Tryz.prog ia1) (Ha1 : ∀ (x0 : S1079) (x1 : S1079) (r : Int), a1 x0 x1 = some r → Con (EG g) ia1 ([G.agg [G.int x0.Moment, G.str x0.Kind, G.str x0.Terminal, G.int x0.Seats, G.int x0.Size, G.int x0.Noise, G.str x0.Name], G.agg [G.int x1.Moment, G.str x1.Kind, G.str x1.Terminal, G.int x1.Seats, G.int x1.Size, G.int x1.Noise, G.str x1.Name]] ++ ka1) (G.int r)) (hB : (List.length a0 : Int) ≤ 12) (hR : s1152 a0 a1 = some R) : ConB (EG g) 108 [.osl 0 7 0 N0, .g (ca1)] [(0, .arr 44 7 (List.map S1079.c a0))] (G.tup []) [(0, .arr 44 7 (List.map S1079.c R))] := by
 unfold s1152 at hR;refine conB_of_aw Tryz.func108 rfl rfl rfl fun w0 M0 x => ?_;refine len_osl (f := S1079.c) (l := a0) 0 rfl fun hla0 => ?_;obtain ⟨r1, br1, hR⟩ := bindO_inv hR;refine aw_region [.p, .p, .p, .p, .w] ?_;refine st rfl rfl (eff_moveO rfl rfl) rfl ?_;refine st rfl rfl (eff_moveO rfl rfl) rfl ?_;refine st rfl rfl (eff_lenON hN0 rfl Tryz.underlying25 rfl) rfl ?_;refine st rfl rfl (eff_moveg rfl rfl) rfl ?_;refine st_w rfl rfl (eff_callB1 0 0 rfl K1173 rfl (ConB.lend (c1173 a0 (List.length a0 : Int) a1 hN0 ha1 Ka1 Ha1 (by first | assumption | omega | (simp [copyL_len]; done) | (simp [copyL_len]; omega)) (by first | assumption | omega | (simp [copyL_len]; done) | (simp [copyL_len]; omega)) br1)) (at_cons rfl rfl (at_cons rfl rfl (at_cons rfl rfl at_nil))) rfl rfl rfl) rfl ?_;refine st_nil ?_;obtain rfl := Option.some.inj hR;show ResOk _ _ _ _ ∧ MemL _ _;exact ⟨res0 rfl, ⟨rfl, trivial⟩⟩
theorem len1152 {a0 : List S1079} {a1 : S1079 → S1079 → Option Int} {R : List S1079} (h : s1152 a0 a1 = some R) : R.length = a0.length := by
 unfold s1152 at h;obtain ⟨y1, h1, h⟩ := bindO_inv h
 cases h
 exact len1173 h1
end Go.Sim
set_option maxRecDepth 10000
namespace Go.Sim
open Go.Proofs
def s1111_l1 (r2 : List S1079) : Nat → Int → (List Int) → (List Int) → Option S1195
 | 0, x3, x4, x5 => some (S1195.mk x4 x5)
 | k7 + 1, x3, x4, x5 => bindO (ixO r2 x3) fun y8 => bindO (ixO x5 x3) fun y9 => s1111_l1 r2 k7 (x3 + 1) (x4 ++ [y8.Moment]) (x5 ++ [IntKind.i64.wrap (y9 + y8.Seats)])
def s1111 (a0 : S1063) (a1 : List S1079) : Option S1195 :=
 bindO (s1149 a1 (fun x0 => s1151 x0 a0)) fun r1 => bindO (s1152 (List.take r1.2 r1.1) (fun x0_ x1_ => some (s1153 x0_ x1_))) fun r2 => s1111_l1 r2 (((r1.2 : Int) - 0).toNat) 0 ([] : List Int) [0]
set_option maxHeartbeats 4000000 in
theorem c1111 {g : List (Nat × List Value)} (a0 : S1063) (a1 : List S1079) {R : S1195}  (hb : a1.length ≤ 12) (hR : s1111 a0 a1 = some R) : Con (EG g) 53 [G.agg [G.str a0.Terminal, G.str a0.Kind, G.int a0.Length, G.int a0.Step, G.int a0.Most], G.sl 7 (List.map S1079.c a1)] (G.agg [G.sl 1 (List.map cInt R.moments), G.sl 1 (List.map cInt R.before)]) := by
 unfold s1111 at hR;refine con_of_aw Tryz.func53 rfl rfl fun w0 M0 => ?_;refine len_sl (f := S1079.c) (l := a1) 1 rfl fun hla1 => ?_;refine aw_seq ?_;refine aw_region [.p, .w] ?_;refine st rfl rfl (eff_box rfl rfl) rfl ?_;refine st_w rfl rfl (eff_alloc 4 rfl z1196 rfl rfl) rfl ?_;refine st_nil ?_;refine aw_seq ?_;refine Exists.elim (bindO_inv hR) (fun r1 hq_ => ?_);have br1 := hq_.1;replace hR := hq_.2;clear hq_;refine aw_region [.p, .w, .p, .k, .p] ?_;refine st rfl rfl (eff_moveg rfl rfl) rfl ?_;refine st_w rfl rfl (eff_callNL (f0 := S1079.c) (l := a1) 10 rfl K1150 rfl (n1150 a1 (by omega)) (ag_cons rfl ag_nil) rfl) rfl ?_;refine st rfl rfl (eff_makeF rfl rfl rfl) rfl ?_;refine st_k rfl rfl (eff_turnL (f0 := S1079.c) (l := a1) (l' := r1.1) (n := r1.2) 10 rfl K1149 rfl (c1149 a1 (fun x0 => s1151 x0 a0) fnis_fn K1151 (fun x0 => c1151 x0 a0) br1) (at_cons rfl rfl (at_cons rfl rfl at_nil)) rfl (refsN rfl) (give1149 br1)) rfl ?_;refine st rfl rfl (eff_assignO rfl rfl) rfl ?_;refine st_nil ?_;have hlf := num1149 br1;refine aw_seq ?_;refine Exists.elim (bindO_inv hR) (fun r2 hq_ => ?_);have br2 := hq_.1;replace hR := hq_.2;clear hq_;refine aw_region [.p, .w] ?_;refine st rfl rfl (eff_moveO rfl rfl) rfl ?_;refine st_w rfl rfl (eff_callB1 0 10 rfl K1152 rfl (c1152 (List.take r1.2 r1.1) (fun x0_ x1_ => some (s1153 x0_ x1_)) (take_len (give1149 br1)) fnis_lit K1153 (fun x0_ x1_ r_ h_ => Option.some.inj h_ ▸ (fun x0 x1 => c1153 x0 x1) x0_ x1_) (by first | assumption | omega | (simp [copyL_len]; done) | (simp [copyL_len]; omega)) br2) (at_cons rfl rfl (at_cons rfl rfl at_nil)) rfl rfl rfl) rfl ?_;refine st_nil ?_;refine aw_seq ?_;refine aw_region [.w, .p, .w, .w] ?_;refine st_w rfl rfl (eff_buildSO (xs := List.map cInt [0]) 15 rfl Tryz.underlying51 ty3 z3 rfl (ps_cons rfl ps_nil) rfl (by simp []) (by decide) rfl) rfl ?_;refine st rfl rfl (eff_buildL (pre := [G.lit (.slice none 0 0)]) rfl z1196 rfl pl1196 rfl (by decide) (fun _ => rfl)) rfl ?_;refine st_w rfl rfl (eff_alloc 6 rfl z1196 rfl rfl) rfl ?_;refine st_wn rfl rfl (eff_store (tv := .agl [G.lit (.slice none 0 0)] 15 1 (1)) rfl ty1196 rfl rfl rfl rfl rfl) ?_;refine st_nil ?_;refine aw_seq ?_;refine aw_seq ?_;refine aw_nilcell 6 0 2060 1 3 rfl rfl rfl rfl ?_;refine aw_region [.p, .p, .p] ?_;refine st rfl rfl (eff_moveO rfl rfl) rfl ?_;refine st rfl rfl (eff_lenO0 rfl Tryz.underlying25 rfl) rfl ?_;refine st rfl rfl (eff_moveg rfl rfl) rfl ?_;refine st_nil ?_;refine aw_block ?_;refine aw_loop_g (γ := Nat × Int × (List Int) × (List Int)) (fun g => ([(4, .ptr 4 0), (6, .ptr 6 0), (17, .osl 10 7 0 (r1.2)), (18, .g (G.int (r1.2 : Int))), (19, .g (G.int g.2.1))], [(4, .box [.g (G.lit (.slice none 0 0)), .g (G.lit (.slice none 0 0))]), (6, .box [.osl 2060 1 0 (List.length g.2.2.1), .osl 15 1 0 (List.length g.2.2.2)]), (10, .arr 44 7 (List.map S1079.c r2)), (15, .arr 3 1 (List.map cInt g.2.2.2)), (2060, .arr 3 1 (List.map cInt g.2.2.1))])) (fun g => g.1 = ((r1.2 : Int) - g.2.1).toNat ∧ 0 ≤ g.2.1 ∧ g.2.1 ≤ (r1.2 : Int) ∧ (g.2.2.1.length : Int) ≤ g.2.1 ∧ (g.2.2.2.length : Int) ≤ g.2.1 + 1 ∧ s1111_l1 r2 g.1 g.2.1 g.2.2.1 g.2.2.2 = some R) (fun g => g.1) ⟨rfl, (((r1.2 : Int) - 0).toNat, 0, ([] : List Int), [0]), ⟨rfl, rfl, rfl, rfl, rfl, trivial⟩, ⟨rfl, rfl, rfl, rfl, rfl, trivial⟩, rfl, ⟨rfl, (by first | omega | (dsimp only; omega) | simp), (by first | omega | (dsimp only; omega) | simp), (by first | omega | (dsimp only; omega) | simp), (by first | omega | (dsimp only; omega) | simp), (by exact hR)⟩, trivial⟩ ?_
 ·rintro ⟨k7, x3, x4, x5⟩ ⟨hk1, iv1_0, iv1_1, iv1_2, iv1_3, hR⟩;replace hk1 : k7 = ((r1.2 : Int) - x3).toNat := hk1;replace hR : s1111_l1 r2 k7 x3 x4 x5 = some R := hR;replace iv1_0 : 0 ≤ x3 := iv1_0;replace iv1_1 : x3 ≤ (r1.2 : Int) := iv1_1;replace iv1_2 : (x4.length : Int) ≤ x3 := iv1_2;replace iv1_3 : (x5.length : Int) ≤ x3 + 1 := iv1_3;refine aw_seq ?_;refine aw_region [.p] ?_;refine st rfl rfl (eff_lss rfl rfl rfl) rfl ?_;refine st_nil ?_;refine aw_seq ?_;refine aw_cond _ rfl (fun h1 => ?_) (fun h1 => ?_)
  ·replace h1 : (decide (x3 < (r1.2 : Int))) = true := h1;replace h1 := decT h1;obtain ⟨k7, rfl⟩ : ∃ m, k7 = m + 1 := ⟨k7 - 1, by omega⟩;rw [s1111_l1] at hR;(try dsimp only at hR);refine aw_skip ?_;refine aw_seq ?_;refine aw_block ?_;refine aw_seq ?_;refine Exists.elim (bindO_inv hR) (fun y8 hq_ => ?_);have by8 := hq_.1;replace hR := hq_.2;clear hq_;refine aw_region [.p, .p, .r, .w, .p, .w] ?_;refine st rfl rfl (eff_moveg rfl rfl) rfl ?_;refine st rfl rfl (eff_ixL rfl Tryz.underlying25 ty1080 rfl rfl (ixO_nn by8) (Nat.lt_of_lt_of_eq (get_lt (ixO_get by8)) ((len1152 br2).trans (take_len (give1149 br1))))) rfl ?_;refine st_r rfl rfl (eff_ldEA (f := S1079.c) (l := r2) (a := y8) rfl ty1080 rfl rfl (ixO_get by8)) rfl ?_;refine st_w rfl rfl (eff_alloc 8 rfl z1080 rfl rfl) rfl ?_;refine st rfl rfl (eff_assigng rfl rfl) rfl ?_;refine st_wn rfl rfl (eff_store (tv := .g (G.agg [G.int y8.Moment, G.str y8.Kind, G.str y8.Terminal, G.int y8.Seats, G.int y8.Size, G.int y8.Noise, G.str y8.Name])) rfl ty1080 rfl rfl rfl rfl rfl) ?_;refine st_nil ?_;refine aw_seq ?_;refine aw_region [.p, .r, .p, .r, .p, .k, .p, .w] ?_;refine st rfl rfl (eff_fieldO rfl fl1196_0 rfl) rfl ?_;refine st_r rfl rfl (eff_loadO rfl ty82 rfl rfl rfl) rfl ?_;refine st rfl rfl (eff_fieldO rfl fl1080_0 rfl) rfl ?_;refine st_r rfl rfl (eff_loadO rfl ty3 rfl rfl rfl) rfl ?_;refine st rfl rfl (eff_buildSlice rfl Tryz.underlying51 ty3 z3 rfl (ps_cons rfl ps_nil) rfl (by simp []) (by decide)) rfl ?_;refine st_k rfl rfl (eff_forget 6 0 rfl (eff_appL (f := cInt) (out := x4) (new := [y8.Moment]) rfl app82 rfl rfl (src_eq rfl (src_sl (by decide) (by simp []))) (refsM rfl) (by simp; omega))) rfl ?_;refine st rfl rfl (eff_fieldO rfl fl1196_0 rfl) rfl ?_;refine st_wn rfl rfl (eff_store (tv := .osl 2060 1 0 (List.length (x4 ++ [y8.Moment]))) rfl ty82 rfl rfl rfl rfl rfl) ?_;refine st_nil ?_;refine Exists.elim (bindO_inv hR) (fun y9 hq_ => ?_);have by9 := hq_.1;replace hR := hq_.2;clear hq_;refine aw_draw2 [.pn 32, .r, .pn 32, .r, .pn 32, .pn 32, .r, .pn 32, .r, .pn 32, .pn 32, .k, .pn 32, .w] (by kernel_rfl) ?_;refine st_pn rfl rfl (eff_fieldO rfl fl1196_1 rfl) rfl rfl rfl ?_;refine st_r rfl rfl (eff_loadO rfl ty82 rfl rfl rfl) rfl ?_;refine st_pn rfl rfl (eff_fieldO rfl fl1196_1 rfl) rfl rfl rfl ?_;refine st_r rfl rfl (eff_loadO rfl ty82 rfl rfl rfl) rfl ?_;refine st_pn rfl rfl (eff_moveg rfl rfl) rfl rfl rfl ?_;refine st_pn rfl rfl (eff_ixL rfl Tryz.underlying51 ty3 rfl rfl (ixO_nn by9) (Nat.lt_of_lt_of_eq (get_lt (ixO_get by9)) rfl)) rfl rfl rfl ?_;refine st_r rfl rfl (eff_ldE (f := cInt) (l := x5) (a := y9) rfl ty3 rfl rfl (ixO_get by9) rfl) rfl ?_;refine st_pn rfl rfl (eff_fieldO rfl fl1080_3 rfl) rfl rfl rfl ?_;refine st_r rfl rfl (eff_loadO rfl ty3 rfl rfl rfl) rfl ?_;refine st_pn rfl rfl (eff_addw rfl rfl rfl) rfl rfl rfl ?_;refine st_pn rfl rfl (eff_buildSlice rfl Tryz.underlying51 ty3 z3 rfl (ps_cons rfl ps_nil) rfl (by simp []) (by decide)) rfl rfl rfl ?_;refine st_k rfl rfl (eff_forget 6 1 rfl (eff_appL (f := cInt) (out := x5) (new := [IntKind.i64.wrap (y9 + y8.Seats)]) rfl app82 rfl rfl (src_eq rfl (src_sl (by decide) (by simp []))) (refsM rfl) (by simp; omega))) rfl ?_;refine st_pn rfl rfl (eff_fieldO rfl fl1196_1 rfl) rfl rfl rfl ?_;refine st_wn rfl rfl (eff_store (tv := .osl 15 1 0 (List.length (x5 ++ [IntKind.i64.wrap (y9 + y8.Seats)]))) rfl ty82 rfl rfl rfl rfl rfl) ?_;refine st_nil ?_;refine aw_region [.p, .p] ?_;refine st rfl rfl (eff_add rfl rfl rfl (by (try dsimp only); unfold I64; omega)) rfl ?_;refine st rfl rfl (eff_moveg rfl rfl) rfl ?_;refine st_nil ?_;exact ⟨rfl, (k7, x3 + 1, x4 ++ [y8.Moment], x5 ++ [IntKind.i64.wrap (y9 + y8.Seats)]), ⟨rfl, rfl, rfl, rfl, rfl, trivial⟩, ⟨rfl, rfl, rfl, rfl, rfl, trivial⟩, rfl, ⟨(by first | omega | (dsimp only; omega) | (simp at *; omega)), (by first | omega | (dsimp only; omega) | (simp at *; omega)), (by first | omega | (dsimp only; omega) | (simp at *; omega)), (by first | omega | (dsimp only; omega) | (simp at *; omega)), (by first | omega | (dsimp only; omega) | (simp at *; omega)), hR⟩, by simp⟩
  ·replace h1 : (decide (x3 < (r1.2 : Int))) = false := h1;replace h1 := decF h1
   obtain rfl : k7 = 0 := by omega
   rw [s1111_l1] at hR;refine aw_exit ?_;refine aw_seq ?_;refine aw_frzcell (l := [(4, .ptr 4 0), (6, .ptr 6 0)]) (m := [(4, .box [.g (G.lit (.slice none 0 0)), .g (G.lit (.slice none 0 0))]), (6, .box [.g (G.sl 1 (List.map cInt x4)), .osl 15 1 0 (List.length x5)]), (15, .arr 3 1 (List.map cInt x5))]) 6 0 2060 1 _ rfl rfl rfl ((List.length_map ..).trans rfl) ⟨rfl, rfl, trivial⟩ ⟨rfl, rfl, rfl, trivial⟩ rfl rfl ?_;refine aw_frzcell (l := [(4, .ptr 4 0), (6, .ptr 6 0)]) (m := [(4, .box [.g (G.lit (.slice none 0 0)), .g (G.lit (.slice none 0 0))]), (6, .box [.g (G.sl 1 (List.map cInt x4)), .g (G.sl 1 (List.map cInt x5))])]) 6 1 15 1 _ rfl rfl rfl ((List.length_map ..).trans rfl) ⟨rfl, rfl, trivial⟩ ⟨rfl, rfl, trivial⟩ rfl rfl ?_;refine aw_region [.r, .w] ?_;refine st_r rfl rfl (eff_loadOA rfl ty1196 rfl rfl rfl rfl) rfl ?_;refine st_wn rfl rfl (eff_store (tv := .g (G.agg [G.sl 1 (List.map cInt x4), G.sl 1 (List.map cInt x5)])) rfl ty1196 rfl rfl rfl rfl rfl) ?_;refine st_nil ?_;refine aw_ret ?_;exact res_e (res_c rfl (rv_cell rfl rfl ty1196 rfl rfl)) (congrArg (fun R_ => G.agg [G.sl 1 (List.map cInt R_.moments), G.sl 1 (List.map cInt R_.before)]) (Option.some.inj hR))
section
variable {E : Env} {o : Oper} {ev : Operand → TV}
theorem wrap_u64 {n : Int} (h : 0 ≤ n) (h' : n ≤ 9223372036854775807) : IntKind.u64.wrap n = n := by
 have e : IntKind.u64.wrap n = n % 18446744073709551616 := by
  simp [IntKind.wrap, IntKind.bits, IntKind.signed]
 rw [e]; omega
theorem eff_convu {s t : TypeId} {x : Operand} {n : Int} {ds : TypeDesc} (ho : o.op = .convert s t x) (hs : E.P.underlying s = some ds) (ht : E.P.underlying t = some (.int .u64)) (hx : ev x = .g (.int n)) (h : 0 ≤ n) (h' : n ≤ 9223372036854775807) (mem : Mem) : Eff E o mem ev (.g (.lit (.int .u64 n))) := by
 have := eff_conv (E := E) ho hs ht hx mem
 rwa [wrap_u64 h h'] at this
theorem eff_convi {s t : TypeId} {x : Operand} {n : Int} {ds : TypeDesc} (ho : o.op = .convert s t x) (hs : E.P.underlying s = some ds) (ht : E.P.underlying t = some (.int .i64)) (hx : ev x = .g (.lit (.int .u64 n))) (h : I64 n) (mem : Mem) : Eff E o mem ev (.g (.int n)) := by
 have := eff_conv (E := E) ho hs ht hx mem
 rwa [wrap_i64 h] at this
theorem eff_half {t t' : TypeId} {x y : Operand} {k : IntKind} {a : Int} (ho : o.op = .binOp .shr t x y t') (hx : ev x = .g (.lit (.int .u64 a))) (hy : ev y = .g (.lit (.int k 1))) (h0 : 0 ≤ a) (mem : Mem) : Eff E o mem ev (.g (.lit (.int .u64 (a / 2)))) :=
 eff_bin ho hx hy (fun w => ⟨.int .u64 (a / 2), by
  have h1 : Int.fdiv a (2 ^ min (1 : Int).toNat IntKind.u64.bits) = a / 2 := Int.fdiv_eq_ediv_of_nonneg a (by decide);simp only [eqGuard, binOp, Op.shift, h1]
  rfl, fun _ => rfl⟩) mem
end
end Go.Sim
set_option maxRecDepth 10000
namespace Go.Sim
open Go.Proofs
def s1194 (a0 : Int) (a1 : Int) : Bool :=
 ((s202 a0) && (!(s202 a1))) || (decide (a0 < a1))
theorem c1194 {g : List (Nat × List Value)} (a0 : Int) (a1 : Int)    : Con (EG g) 160 [G.int a0, G.int a1] (G.bool (s1194 a0 a1)) := by
 generalize hR : s1194 a0 a1 = R;unfold s1194 at hR;refine con_of_aw Tryz.func160 rfl rfl fun w0 M0 => ?_;refine aw_seq ?_;refine aw_region [.p] ?_;refine st rfl rfl (eff_assigng rfl rfl) rfl ?_;refine st_nil ?_;refine aw_seq ?_;refine aw_region [.p, .p, .p, .p, .p, .p, .p, .p, .p, .p, .p, .p, .p] ?_;refine st rfl rfl (eff_moveg rfl rfl) rfl ?_;refine st rfl rfl (eff_call rfl K202 rfl (c202 a0) (ag_cons rfl ag_nil)) rfl ?_;refine st rfl rfl (eff_moveg rfl rfl) rfl ?_;refine st_g rfl rfl rfl (gb_bool _ _) (fun h => eff_moveg rfl rfl) rfl ?_;refine st_g rfl rfl rfl (gb_bool _ _) (fun h => eff_call rfl K202 rfl (c202 a1) (ag_cons (gd h rfl) ag_nil)) rfl ?_;refine st_g rfl rfl rfl (gb_bool _ _) (fun h => eff_not rfl (gd h rfl)) rfl ?_;refine st rfl rfl (eff_and rfl rfl rfl rfl) rfl ?_;refine st rfl rfl (eff_moveg rfl rfl) rfl ?_;refine st_g rfl rfl rfl (gb_bool _ _) (fun h => eff_moveg rfl rfl) rfl ?_;refine st_g rfl rfl rfl (gb_bool _ _) (fun h => eff_moveg rfl rfl) rfl ?_;refine st_g rfl rfl rfl (gb_bool _ _) (fun h => eff_lss rfl (gd h rfl) (gd h rfl)) rfl ?_;refine st rfl rfl (eff_or rfl rfl rfl rfl) rfl ?_;refine st rfl rfl (eff_assigng rfl rfl) rfl ?_;refine st_nil ?_;refine aw_ret ?_;subst hR;exact res_c rfl (rv_g rfl)
def s1195 (a0 : Int) : Bool :=
 decide (a0 ≠ a0)
theorem c1195 {g : List (Nat × List Value)} (a0 : Int)    : Con (EG g) 170 [G.int a0] (G.bool (s1195 a0)) := by
 generalize hR : s1195 a0 = R;unfold s1195 at hR;refine con_of_aw Tryz.func170 rfl rfl fun w0 M0 => ?_;refine aw_seq ?_;refine aw_region [.p] ?_;refine st rfl rfl (eff_assigng rfl rfl) rfl ?_;refine st_nil ?_;refine aw_seq ?_;refine aw_region [.p, .p, .p, .p] ?_;refine st rfl rfl (eff_moveg rfl rfl) rfl ?_;refine st rfl rfl (eff_moveg rfl rfl) rfl ?_;refine st rfl rfl (eff_neq rfl rfl rfl) rfl ?_;refine st rfl rfl (eff_assigng rfl rfl) rfl ?_;refine st_nil ?_;refine aw_ret ?_;subst hR;exact res_c rfl (rv_g rfl)
def s1175_l1 (a0 : List Int) (a1 : Int) : Nat → Int → Int → Option (Int × Bool)
 | 0, _, _ => none
 | k3 + 1, x1, x2 => (bif decide (x1 < x2) then bindO (ixO a0 ((x1 + x2) / 2)) fun y4 => (bif (s1194 y4 a1) then s1175_l1 a0 a1 k3 (((x1 + x2) / 2) + 1) x2 else s1175_l1 a0 a1 k3 x1 ((x1 + x2) / 2)) else bindO (bif decide (x1 < (List.length a0 : Int)) then ixO a0 x1 else some default) fun y5 => bindO (bif (decide (x1 < (List.length a0 : Int))) && (!(decide (y5 = a1))) then ixO a0 x1 else some default) fun y6 => some (x1, (decide (x1 < (List.length a0 : Int))) && ((decide (y5 = a1)) || ((s1195 y6) && (s1195 a1)))))
def s1175 (a0 : List Int) (a1 : Int) : Option (Int × Bool) :=
 s1175_l1 a0 a1 ((((List.length a0 : Int) - 0).toNat) + 1) 0 (List.length a0 : Int)
theorem c1175 {g : List (Nat × List Value)} (a0 : List Int) (a1 : Int) {R : Int × Bool}  (hb : a0.length ≤ 1000) (hR : s1175 a0 a1 = some R) : Con (EG g) 144 [G.sl 1 (List.map cInt a0), G.int a1] (G.tup [G.int R.1, G.bool R.2]) := by
 unfold s1175 at hR;refine con_of_aw Tryz.func144 rfl rfl fun w0 M0 => ?_;refine len_sl (f := cInt) (l := a0) 0 rfl fun hla0 => ?_;refine aw_seq ?_;refine aw_region [.p, .p] ?_;refine st rfl rfl (eff_assigng rfl rfl) rfl ?_;refine st rfl rfl (eff_assigng rfl rfl) rfl ?_;refine st_nil ?_;refine aw_seq ?_;refine aw_region [.p, .p, .p] ?_;refine st rfl rfl (eff_moveg rfl rfl) rfl ?_;refine st rfl rfl (eff_lenM (f := cInt) (l := a0) rfl Tryz.underlying51 rfl) rfl ?_;refine st rfl rfl (eff_assigng rfl rfl) rfl ?_;refine st_nil ?_;refine aw_seq ?_;refine aw_region [.p, .p, .p] ?_;refine st rfl rfl (eff_moveg rfl rfl) rfl ?_;refine st rfl rfl (eff_assigng rfl rfl) rfl ?_;refine st rfl rfl (eff_assigng rfl rfl) rfl ?_;refine st_nil ?_;refine aw_seq ?_;refine aw_block ?_;refine aw_loop_g (γ := Nat × Int × Int) (fun g => ([(0, .g (G.sl 1 (List.map cInt a0))), (1, .g (G.int a1)), (6, .g (G.int (List.length a0 : Int))), (7, .g (G.int g.2.1)), (8, .g (G.int g.2.2))], [])) (fun g => (g.2.2 - g.2.1).toNat < g.1 ∧ 0 ≤ g.2.1 ∧ g.2.1 ≤ g.2.2 ∧ g.2.2 ≤ (List.length a0 : Int) ∧ s1175_l1 a0 a1 g.1 g.2.1 g.2.2 = some R) (fun g => g.1) ⟨rfl, ((((List.length a0 : Int) - 0).toNat) + 1, 0, (List.length a0 : Int)), ⟨rfl, rfl, rfl, rfl, rfl, trivial⟩, trivial, rfl, ⟨Nat.lt_succ_self _, (by first | omega | (dsimp only; omega) | simp), (by first | omega | (dsimp only; omega) | simp), (by first | omega | (dsimp only; omega) | simp), hR⟩, trivial⟩ ?_
 ·rintro ⟨k3, x1, x2⟩ ⟨hk1, iv1_0, iv1_1, iv1_2, hR⟩;replace hk1 : (x2 - x1).toNat < k3 := hk1;replace hR : s1175_l1 a0 a1 k3 x1 x2 = some R := hR;replace iv1_0 : 0 ≤ x1 := iv1_0;replace iv1_1 : x1 ≤ x2 := iv1_1;replace iv1_2 : x2 ≤ (List.length a0 : Int) := iv1_2;obtain ⟨k3, rfl⟩ : ∃ m, k3 = m + 1 := ⟨k3 - 1, by omega⟩;rw [s1175_l1] at hR;(try dsimp only at hR);refine aw_seq ?_;refine aw_seq ?_;refine aw_region [.p, .p, .p] ?_;refine st rfl rfl (eff_moveg rfl rfl) rfl ?_;refine st rfl rfl (eff_moveg rfl rfl) rfl ?_;refine st rfl rfl (eff_lss rfl rfl rfl) rfl ?_;refine st_nil ?_;refine aw_cond _ rfl (fun h1 => ?_) (fun h1 => ?_)
  ·replace h1 : (decide (x1 < x2)) = true := h1;replace hR := condT hR h1;(try simp only [Bool.or_eq_true, Bool.and_eq_true, Bool.or_eq_false_iff, Bool.and_eq_false_iff, Bool.not_eq_true', Bool.not_eq_false', decide_eq_true_eq, decide_eq_false_iff_not] at h1);refine aw_skip ?_;refine aw_block ?_;refine aw_seq ?_;refine aw_region [.p, .p, .p, .p, .p, .p, .p] ?_;refine st rfl rfl (eff_moveg rfl rfl) rfl ?_;refine st rfl rfl (eff_moveg rfl rfl) rfl ?_;refine st rfl rfl (eff_add rfl rfl rfl (by unfold I64; (try dsimp only); omega)) rfl ?_;refine st rfl rfl (eff_convu rfl Tryz.underlying3 Tryz.underlying142 rfl (by (try dsimp only); omega) (by (try dsimp only); omega)) rfl ?_;refine st rfl rfl (eff_half rfl rfl rfl (by (try dsimp only); omega)) rfl ?_;refine st rfl rfl (eff_convi rfl Tryz.underlying142 Tryz.underlying3 rfl (by unfold I64; (try dsimp only); omega)) rfl ?_;refine st rfl rfl (eff_assigng rfl rfl) rfl ?_;refine st_nil ?_;refine aw_seq ?_;obtain ⟨y4, by4, hR⟩ := bindO_inv hR;refine aw_region [.p, .p, .p, .p, .p, .p] ?_;refine st rfl rfl (eff_moveg rfl rfl) rfl ?_;refine st rfl rfl (eff_moveg rfl rfl) rfl ?_;refine st rfl rfl (eff_ix (f := cInt) (l := a0) (a := y4) rfl Tryz.underlying51 ty3 rfl rfl (ixO_nn by4) (ixO_get by4)) rfl ?_;refine st rfl rfl (eff_load rfl ty3 rfl) rfl ?_;refine st rfl rfl (eff_moveg rfl rfl) rfl ?_;refine st rfl rfl (eff_call rfl K1194 rfl (c1194 y4 a1) (ag_cons rfl (ag_cons rfl ag_nil))) rfl ?_;refine st_nil ?_;refine aw_cond _ rfl (fun h2 => ?_) (fun h2 => ?_)
   ·replace h2 : ((s1194 y4 a1)) = true := h2;replace hR := condT hR h2;(try simp only [Bool.or_eq_true, Bool.and_eq_true, Bool.or_eq_false_iff, Bool.and_eq_false_iff, Bool.not_eq_true', Bool.not_eq_false', decide_eq_true_eq, decide_eq_false_iff_not] at h2);refine aw_region [.p, .p, .p] ?_;refine st rfl rfl (eff_moveg rfl rfl) rfl ?_;refine st rfl rfl (eff_add rfl rfl rfl (by unfold I64; (try dsimp only); omega)) rfl ?_;refine st rfl rfl (eff_assigng rfl rfl) rfl ?_;refine st_nil ?_;exact ⟨rfl, (k3, ((x1 + x2) / 2) + 1, x2), ⟨rfl, rfl, rfl, rfl, rfl, trivial⟩, trivial, rfl, ⟨(by first | omega | (dsimp only; omega) | (simp at *; omega)), (by first | omega | (dsimp only; omega) | (simp at *; omega)), (by first | omega | (dsimp only; omega) | (simp at *; omega)), (by first | omega | (dsimp only; omega) | (simp at *; omega)), hR⟩, by simp⟩
   ·replace h2 : ((s1194 y4 a1)) = false := h2;replace hR := condF hR h2;(try simp only [Bool.or_eq_true, Bool.and_eq_true, Bool.or_eq_false_iff, Bool.and_eq_false_iff, Bool.not_eq_true', Bool.not_eq_false', decide_eq_true_eq, decide_eq_false_iff_not] at h2);refine aw_region [.p, .p] ?_;refine st rfl rfl (eff_moveg rfl rfl) rfl ?_;refine st rfl rfl (eff_assigng rfl rfl) rfl ?_;refine st_nil ?_;exact ⟨rfl, (k3, x1, (x1 + x2) / 2), ⟨rfl, rfl, rfl, rfl, rfl, trivial⟩, trivial, rfl, ⟨(by first | omega | (dsimp only; omega) | (simp at *; omega)), (by first | omega | (dsimp only; omega) | (simp at *; omega)), (by first | omega | (dsimp only; omega) | (simp at *; omega)), (by first | omega | (dsimp only; omega) | (simp at *; omega)), hR⟩, by simp⟩
  ·replace h1 : (decide (x1 < x2)) = false := h1;replace hR := condF hR h1;(try simp only [Bool.or_eq_true, Bool.and_eq_true, Bool.or_eq_false_iff, Bool.and_eq_false_iff, Bool.not_eq_true', Bool.not_eq_false', decide_eq_true_eq, decide_eq_false_iff_not] at h1);refine aw_exit ?_;refine aw_seq ?_;obtain ⟨y5, by5, hR⟩ := bindO_inv hR;obtain ⟨y6, by6, hR⟩ := bindO_inv hR;refine aw_region [.p, .p, .p, .p, .p, .p, .p, .p, .p, .p, .p, .p, .p, .p, .p, .p, .p, .p, .p, .p, .p, .p, .p, .p, .p] ?_;refine st rfl rfl (eff_moveg rfl rfl) rfl ?_;refine st rfl rfl (eff_moveg rfl rfl) rfl ?_;refine st rfl rfl (eff_moveg rfl rfl) rfl ?_;refine st rfl rfl (eff_lss rfl rfl rfl) rfl ?_;refine st rfl rfl (eff_moveg rfl rfl) rfl ?_;refine st_g rfl rfl rfl (gb_bool _ _) (fun h => eff_moveg rfl rfl) rfl ?_;refine st_g rfl rfl rfl (gb_bool _ _) (fun h => eff_moveg rfl rfl) rfl ?_;refine st_g rfl rfl rfl (gb_bool _ _) (fun h => eff_ix (f := cInt) (l := a0) (a := y5) rfl Tryz.underlying51 ty3 (gd h rfl) (gd h rfl) (ixO_nn (condT1 by5 h)) (ixO_get (condT1 by5 h))) rfl ?_;refine st_g rfl rfl rfl (gb_bool _ _) (fun h => eff_load rfl ty3 (gd h rfl)) rfl ?_;refine st_g rfl rfl rfl (gb_bool _ _) (fun h => eff_moveg rfl rfl) rfl ?_;refine st_g rfl rfl rfl (gb_bool _ _) (fun h => eff_eql rfl (gd h rfl) (gd h rfl)) rfl ?_;refine st_g rfl rfl rfl (gb_bool _ _) (fun h => eff_moveg rfl (gd h rfl)) rfl ?_;refine st_g rfl rfl rfl (gb_if _ _ _) (fun h => eff_moveg rfl rfl) rfl ?_;refine st_g rfl rfl rfl (gb_if _ _ _) (fun h => eff_moveg rfl rfl) rfl ?_;refine st_g rfl rfl rfl (gb_if _ _ _) (fun h => eff_ix (f := cInt) (l := a0) (a := y6) rfl Tryz.underlying51 ty3 (gd h rfl) (gd h rfl) (ixO_nn (condS by6 h)) (ixO_get (condS by6 h))) rfl ?_;refine st_g rfl rfl rfl (gb_if _ _ _) (fun h => eff_load rfl ty3 (gd h rfl)) rfl ?_;refine st_g rfl rfl rfl (gb_if _ _ _) (fun h => eff_call rfl K1195 rfl (c1195 y6) (ag_cons (gd h rfl) ag_nil)) rfl ?_;refine st_g rfl rfl rfl (gb_if _ _ _) (fun h => eff_moveg rfl (gd h rfl)) rfl ?_;refine st_g rfl rfl rfl (gb_if _ _ _) (fun h => eff_moveg rfl rfl) rfl ?_;refine st_g rfl rfl rfl (gb_if _ _ _) (fun h => eff_call rfl K1195 rfl (c1195 a1) (ag_cons (gd h rfl) ag_nil)) rfl ?_;refine st_g rfl rfl rfl (gb_if _ _ _) (fun h => eff_and rfl (gd h rfl) rfl (gd2 h rfl)) rfl ?_;refine st_g rfl rfl rfl (gb_bool _ _) (fun h => eff_or rfl (gd h rfl) rfl (gd2 h rfl)) rfl ?_;refine st rfl rfl (eff_and rfl rfl rfl rfl) rfl ?_;refine st rfl rfl (eff_assigng rfl rfl) rfl ?_;refine st rfl rfl (eff_assigng rfl rfl) rfl ?_;refine st_nil ?_;refine aw_ret ?_;obtain rfl := Option.some.inj hR;exact resN rfl ⟨rv_g rfl, rv_g rfl, trivial⟩ (by simp)
end Go.Sim
set_option maxRecDepth 10000
namespace Go.Sim
open Go.Proofs
def s2171 (a0 : S45) (a1 : Int) : Bool :=
 ((decide (a0.fFrom ≤ a1)) && (decide (a1 ≤ a0.fTo))) && (s187 a0.Days (s188 a1))
theorem c2171 {g : List (Nat × List Value)} (a0 : S45) (a1 : Int)  (hf : 0 ≤ a0.fFrom) (ht : a0.fTo ≤ 1000000)  : Con (EG g) 171 [G.agg [G.int a0.fFrom, G.int a0.fTo, G.int a0.Days], G.int a1] (G.bool (s2171 a0 a1)) := by
 generalize hR : s2171 a0 a1 = R;unfold s2171 at hR;refine con_of_aw Tryz.func171 rfl rfl fun w0 M0 => ?_;refine aw_seq ?_;refine aw_region [.p, .p] ?_;refine st rfl rfl (eff_box rfl rfl) rfl ?_;refine st rfl rfl (eff_assigng rfl rfl) rfl ?_;refine st_nil ?_;refine aw_seq ?_;refine aw_draw [.p, .p, .p, .p, .p, .p, .p, .p, .p, .p, .p, .p, .p, .p, .p, .p, .p, .p] (by kernel_rfl) ?_;refine st rfl rfl (eff_moveg rfl rfl) rfl ?_;refine st rfl rfl (eff_fieldAddr rfl fl46_0 rfl) rfl ?_;refine st rfl rfl (eff_load rfl ty3 rfl) rfl ?_;refine st rfl rfl (eff_geq rfl rfl rfl) rfl ?_;refine st rfl rfl (eff_moveg rfl rfl) rfl ?_;refine st_g rfl rfl rfl (gb_bool _ _) (fun h => eff_moveg rfl rfl) rfl ?_;refine st_g rfl rfl rfl (gb_bool _ _) (fun h => eff_fieldAddr rfl fl46_1 rfl) rfl ?_;refine st_g rfl rfl rfl (gb_bool _ _) (fun h => eff_load rfl ty3 (gd h rfl)) rfl ?_;refine st_g rfl rfl rfl (gb_bool _ _) (fun h => eff_leq rfl (gd h rfl) (gd h rfl)) rfl ?_;refine st rfl rfl (eff_and rfl rfl rfl rfl) rfl ?_;refine st rfl rfl (eff_moveg rfl rfl) rfl ?_;refine st_g rfl rfl rfl (gb_bool _ _) (fun h => eff_fieldAddr rfl fl46_2 rfl) rfl ?_;refine st_g rfl rfl rfl (gb_bool _ _) (fun h => eff_load rfl ty3 (gd h rfl)) rfl ?_;refine st_g rfl rfl rfl (gb_bool _ _) (fun h => eff_moveg rfl rfl) rfl ?_;refine st_g rfl rfl rfl (gb_bool _ _) (fun h => eff_call rfl K188 rfl (c188 a1) (ag_cons (gd h rfl) ag_nil)) rfl ?_;refine st_g rfl rfl rfl (gb_bool _ _) (fun h => eff_call rfl K187 rfl (c187 a0.Days (s188 a1) (wd_nn hf ht h)) (ag_cons (gd h rfl) (ag_cons (gd h rfl) ag_nil))) rfl ?_;refine st rfl rfl (eff_and rfl rfl rfl rfl) rfl ?_;refine st rfl rfl (eff_assigng rfl rfl) rfl ?_;refine st_nil ?_;refine aw_ret ?_;subst hR;exact res_c rfl (rv_g rfl)
def s2148 (a0 : S45) (a1 : Int) : Bool × Int :=
 (bif decide ((s152 [(s102 a0), (s153 a1)]) ≠ 0) then (false, (s152 [(s102 a0), (s153 a1)])) else ((s2171 a0 a1), 0))
theorem c2148 {g : List (Nat × List Value)} (a0 : S45) (a1 : Int)    : Con (EG g) 148 [G.agg [G.int a0.fFrom, G.int a0.fTo, G.int a0.Days], G.int a1] (G.tup [G.bool ((s2148 a0 a1).1), G.int ((s2148 a0 a1).2)]) := by
 generalize hR : s2148 a0 a1 = R;unfold s2148 at hR;refine con_of_aw Tryz.func148 rfl rfl fun w0 M0 => ?_;refine aw_seq ?_;refine aw_region [.p, .p, .p] ?_;refine st rfl rfl (eff_box rfl rfl) rfl ?_;refine st rfl rfl (eff_assigng rfl rfl) rfl ?_;refine st rfl rfl (eff_assigng rfl rfl) rfl ?_;refine st_nil ?_;refine aw_seq ?_;refine aw_seq ?_;refine aw_region [.p, .p, .p, .p, .p, .p, .p] ?_;refine st rfl rfl (eff_loadA rfl ty46 rfl rfl rfl) rfl ?_;refine st rfl rfl (eff_call rfl K102 rfl (c102 a0) (ag_cons rfl ag_nil)) rfl ?_;refine st rfl rfl (eff_moveg rfl rfl) rfl ?_;refine st rfl rfl (eff_call rfl K153 rfl (c153 a1) (ag_cons rfl ag_nil)) rfl ?_;refine st rfl rfl (eff_buildSlice rfl Tryz.underlying131 ty37 z37 rfl (ps_cons rfl (ps_cons rfl ps_nil)) rfl (by simp []) (by decide)) rfl ?_;refine st rfl rfl (eff_call rfl K152 rfl (c152 [(s102 a0), (s153 a1)]) (ag_cons rfl ag_nil)) rfl ?_;refine st rfl rfl (eff_assigng rfl rfl) rfl ?_;refine st_nil ?_;refine aw_seq ?_;refine aw_region [.p, .p] ?_;refine st rfl rfl (eff_moveg rfl rfl) rfl ?_;refine st rfl rfl (eff_neq rfl rfl rfl) rfl ?_;refine st_nil ?_;refine aw_cond _ rfl (fun h1 => ?_) (fun h1 => ?_)
 ·replace h1 : (decide ((s152 [(s102 a0), (s153 a1)]) ≠ 0)) = true := h1;replace hR := condT hR h1;(try simp only [Bool.or_eq_true, Bool.and_eq_true, Bool.or_eq_false_iff, Bool.and_eq_false_iff, Bool.not_eq_true', Bool.not_eq_false', decide_eq_true_eq, decide_eq_false_iff_not] at h1);refine aw_seq ?_;refine aw_region [.p, .p, .p] ?_;refine st rfl rfl (eff_moveg rfl rfl) rfl ?_;refine st rfl rfl (eff_assigng rfl rfl) rfl ?_;refine st rfl rfl (eff_assigng rfl rfl) rfl ?_;refine st_nil ?_;refine aw_ret ?_;subst hR;exact resN rfl ⟨rv_g rfl, rv_g rfl, trivial⟩ (by simp)
 ·replace h1 : (decide ((s152 [(s102 a0), (s153 a1)]) ≠ 0)) = false := h1;replace hR := condF hR h1;(try simp only [Bool.or_eq_true, Bool.and_eq_true, Bool.or_eq_false_iff, Bool.and_eq_false_iff, Bool.not_eq_true', Bool.not_eq_false', decide_eq_true_eq, decide_eq_false_iff_not] at h1);obtain ⟨hp, _⟩ := first2 _ _ (Decidable.not_not.1 h1);have hq := period_ok a0 hp;refine aw_skip ?_;refine aw_seq ?_;refine aw_region [.p, .p, .p, .p, .p] ?_;refine st rfl rfl (eff_loadA rfl ty46 rfl rfl rfl) rfl ?_;refine st rfl rfl (eff_moveg rfl rfl) rfl ?_;refine st rfl rfl (eff_call rfl K2171 rfl (c2171 a0 a1 (by first | assumption | omega | (simp [copyL_len]; done) | (simp [copyL_len]; omega)) (by first | assumption | omega | (simp [copyL_len]; done) | (simp [copyL_len]; omega))) (ag_cons rfl (ag_cons rfl ag_nil))) rfl ?_;refine st rfl rfl (eff_assigng rfl rfl) rfl ?_;refine st rfl rfl (eff_assigng rfl rfl) rfl ?_;refine st_nil ?_;refine aw_ret ?_;subst hR;exact resN rfl ⟨rv_g rfl, rv_g rfl, trivial⟩ (by simp)
def s2115 (a0 : S2062) (a1 : Int) : Bool :=
 (decide ((s2148 a0.Period a1).2 = 0)) && ((s2148 a0.Period a1).1)
theorem c2115 {g : List (Nat × List Value)} (a0 : S2062) (a1 : Int)    : Con (EG g) 115 [G.agg [G.str a0.Name, G.str a0.Kind, G.str a0.Terminal, G.int a0.Length, G.int a0.Step, G.int a0.fFrom, G.int a0.fTo, G.int a0.Period.fFrom, G.int a0.Period.fTo, G.int a0.Period.Days, G.int a0.Most], G.int a1] (G.bool (s2115 a0 a1)) := by
 generalize hR : s2115 a0 a1 = R;unfold s2115 at hR;refine con_of_aw Tryz.func115 rfl rfl fun w0 M0 => ?_;refine aw_seq ?_;refine aw_region [.p, .p] ?_;refine st rfl rfl (eff_box rfl rfl) rfl ?_;refine st rfl rfl (eff_assigng rfl rfl) rfl ?_;refine st_nil ?_;refine aw_seq ?_;refine aw_region [.p, .p, .p, .p, .p, .p, .p, .p, .p] ?_;refine st rfl rfl (eff_fieldAddr rfl fl2063_7 rfl) rfl ?_;refine st rfl rfl (eff_loadA rfl ty46 rfl rfl rfl) rfl ?_;refine st rfl rfl (eff_moveg rfl rfl) rfl ?_;refine st rfl rfl (eff_call rfl K2148 rfl (c2148 a0.Period a1) (ag_cons rfl (ag_cons rfl ag_nil))) rfl ?_;refine st rfl rfl (eff_moveg rfl rfl) rfl ?_;refine st rfl rfl (eff_extract rfl rfl rfl) rfl ?_;refine st rfl rfl (eff_extract rfl rfl rfl) rfl ?_;refine st rfl rfl (eff_assigng rfl rfl) rfl ?_;refine st rfl rfl (eff_assigng rfl rfl) rfl ?_;refine st_nil ?_;refine aw_seq ?_;refine aw_region [.p, .p, .p, .p, .p, .p] ?_;refine st rfl rfl (eff_moveg rfl rfl) rfl ?_;refine st rfl rfl (eff_eql rfl rfl rfl) rfl ?_;refine st rfl rfl (eff_moveg rfl rfl) rfl ?_;refine st_g rfl rfl rfl (gb_bool _ _) (fun h => eff_moveg rfl rfl) rfl ?_;refine st rfl rfl (eff_and rfl rfl rfl rfl) rfl ?_;refine st rfl rfl (eff_assigng rfl rfl) rfl ?_;refine st_nil ?_;refine aw_ret ?_;subst hR;exact res_c rfl (rv_g rfl)
def s2149_l1 (a0 : List Int) (a1 : Int) : Nat → Int → Int → Option (Int × Bool)
 | 0, _, _ => none
 | k3 + 1, x1, x2 => (bif decide (x1 < x2) then bindO (ixO a0 ((x1 + x2) / 2)) fun y4 => (bif (s1194 y4 a1) then s2149_l1 a0 a1 k3 (((x1 + x2) / 2) + 1) x2 else s2149_l1 a0 a1 k3 x1 ((x1 + x2) / 2)) else bindO (bif decide (x1 < (List.length a0 : Int)) then ixO a0 x1 else some default) fun y5 => bindO (bif (decide (x1 < (List.length a0 : Int))) && (!(decide (y5 = a1))) then ixO a0 x1 else some default) fun y6 => some (x1, (decide (x1 < (List.length a0 : Int))) && ((decide (y5 = a1)) || ((s1195 y6) && (s1195 a1)))))
def s2149 (a0 : List Int) (a1 : Int) : Option (Int × Bool) :=
 s2149_l1 a0 a1 ((((List.length a0 : Int) - 0).toNat) + 1) 0 (List.length a0 : Int)
theorem c2149 {g : List (Nat × List Value)} (a0 : List Int) (a1 : Int) {R : Int × Bool}  (hb : a0.length ≤ 1000) (hR : s2149 a0 a1 = some R) : Con (EG g) 149 [G.sl 1 (List.map cInt a0), G.int a1] (G.tup [G.int R.1, G.bool R.2]) := by
 unfold s2149 at hR;refine con_of_aw Tryz.func149 rfl rfl fun w0 M0 => ?_;refine len_sl (f := cInt) (l := a0) 0 rfl fun hla0 => ?_;refine aw_seq ?_;refine aw_region [.p, .p] ?_;refine st rfl rfl (eff_assigng rfl rfl) rfl ?_;refine st rfl rfl (eff_assigng rfl rfl) rfl ?_;refine st_nil ?_;refine aw_seq ?_;refine aw_region [.p, .p, .p] ?_;refine st rfl rfl (eff_moveg rfl rfl) rfl ?_;refine st rfl rfl (eff_lenM (f := cInt) (l := a0) rfl Tryz.underlying122 rfl) rfl ?_;refine st rfl rfl (eff_assigng rfl rfl) rfl ?_;refine st_nil ?_;refine aw_seq ?_;refine aw_region [.p, .p, .p] ?_;refine st rfl rfl (eff_moveg rfl rfl) rfl ?_;refine st rfl rfl (eff_assigng rfl rfl) rfl ?_;refine st rfl rfl (eff_assigng rfl rfl) rfl ?_;refine st_nil ?_;refine aw_seq ?_;refine aw_block ?_;refine aw_loop_g (γ := Nat × Int × Int) (fun g => ([(0, .g (G.sl 1 (List.map cInt a0))), (1, .g (G.int a1)), (6, .g (G.int (List.length a0 : Int))), (7, .g (G.int g.2.1)), (8, .g (G.int g.2.2))], [])) (fun g => (g.2.2 - g.2.1).toNat < g.1 ∧ 0 ≤ g.2.1 ∧ g.2.1 ≤ g.2.2 ∧ g.2.2 ≤ (List.length a0 : Int) ∧ s2149_l1 a0 a1 g.1 g.2.1 g.2.2 = some R) (fun g => g.1) ⟨rfl, ((((List.length a0 : Int) - 0).toNat) + 1, 0, (List.length a0 : Int)), ⟨rfl, rfl, rfl, rfl, rfl, trivial⟩, trivial, rfl, ⟨Nat.lt_succ_self _, (by first | omega | (dsimp only; omega) | simp), (by first | omega | (dsimp only; omega) | simp), (by first | omega | (dsimp only; omega) | simp), hR⟩, trivial⟩ ?_
 ·rintro ⟨k3, x1, x2⟩ ⟨hk1, iv1_0, iv1_1, iv1_2, hR⟩;replace hk1 : (x2 - x1).toNat < k3 := hk1;replace hR : s2149_l1 a0 a1 k3 x1 x2 = some R := hR;replace iv1_0 : 0 ≤ x1 := iv1_0;replace iv1_1 : x1 ≤ x2 := iv1_1;replace iv1_2 : x2 ≤ (List.length a0 : Int) := iv1_2;obtain ⟨k3, rfl⟩ : ∃ m, k3 = m + 1 := ⟨k3 - 1, by omega⟩;rw [s2149_l1] at hR;(try dsimp only at hR);refine aw_seq ?_;refine aw_seq ?_;refine aw_region [.p, .p, .p] ?_;refine st rfl rfl (eff_moveg rfl rfl) rfl ?_;refine st rfl rfl (eff_moveg rfl rfl) rfl ?_;refine st rfl rfl (eff_lss rfl rfl rfl) rfl ?_;refine st_nil ?_;refine aw_cond _ rfl (fun h1 => ?_) (fun h1 => ?_)
  ·replace h1 : (decide (x1 < x2)) = true := h1;replace hR := condT hR h1;(try simp only [Bool.or_eq_true, Bool.and_eq_true, Bool.or_eq_false_iff, Bool.and_eq_false_iff, Bool.not_eq_true', Bool.not_eq_false', decide_eq_true_eq, decide_eq_false_iff_not] at h1);refine aw_skip ?_;refine aw_block ?_;refine aw_seq ?_;refine aw_region [.p, .p, .p, .p, .p, .p, .p] ?_;refine st rfl rfl (eff_moveg rfl rfl) rfl ?_;refine st rfl rfl (eff_moveg rfl rfl) rfl ?_;refine st rfl rfl (eff_add rfl rfl rfl (by unfold I64; (try dsimp only); omega)) rfl ?_;refine st rfl rfl (eff_convu rfl Tryz.underlying3 Tryz.underlying142 rfl (by (try dsimp only); omega) (by (try dsimp only); omega)) rfl ?_;refine st rfl rfl (eff_half rfl rfl rfl (by (try dsimp only); omega)) rfl ?_;refine st rfl rfl (eff_convi rfl Tryz.underlying142 Tryz.underlying3 rfl (by unfold I64; (try dsimp only); omega)) rfl ?_;refine st rfl rfl (eff_assigng rfl rfl) rfl ?_;refine st_nil ?_;refine aw_seq ?_;obtain ⟨y4, by4, hR⟩ := bindO_inv hR;refine aw_region [.p, .p, .p, .p, .p, .p] ?_;refine st rfl rfl (eff_moveg rfl rfl) rfl ?_;refine st rfl rfl (eff_moveg rfl rfl) rfl ?_;refine st rfl rfl (eff_ix (f := cInt) (l := a0) (a := y4) rfl Tryz.underlying122 ty3 rfl rfl (ixO_nn by4) (ixO_get by4)) rfl ?_;refine st rfl rfl (eff_load rfl ty3 rfl) rfl ?_;refine st rfl rfl (eff_moveg rfl rfl) rfl ?_;refine st rfl rfl (eff_call rfl K1194 rfl (c1194 y4 a1) (ag_cons rfl (ag_cons rfl ag_nil))) rfl ?_;refine st_nil ?_;refine aw_cond _ rfl (fun h2 => ?_) (fun h2 => ?_)
   ·replace h2 : ((s1194 y4 a1)) = true := h2;replace hR := condT hR h2;(try simp only [Bool.or_eq_true, Bool.and_eq_true, Bool.or_eq_false_iff, Bool.and_eq_false_iff, Bool.not_eq_true', Bool.not_eq_false', decide_eq_true_eq, decide_eq_false_iff_not] at h2);refine aw_region [.p, .p, .p] ?_;refine st rfl rfl (eff_moveg rfl rfl) rfl ?_;refine st rfl rfl (eff_add rfl rfl rfl (by unfold I64; (try dsimp only); omega)) rfl ?_;refine st rfl rfl (eff_assigng rfl rfl) rfl ?_;refine st_nil ?_;exact ⟨rfl, (k3, ((x1 + x2) / 2) + 1, x2), ⟨rfl, rfl, rfl, rfl, rfl, trivial⟩, trivial, rfl, ⟨(by first | omega | (dsimp only; omega) | (simp at *; omega)), (by first | omega | (dsimp only; omega) | (simp at *; omega)), (by first | omega | (dsimp only; omega) | (simp at *; omega)), (by first | omega | (dsimp only; omega) | (simp at *; omega)), hR⟩, by simp⟩
   ·replace h2 : ((s1194 y4 a1)) = false := h2;replace hR := condF hR h2;(try simp only [Bool.or_eq_true, Bool.and_eq_true, Bool.or_eq_false_iff, Bool.and_eq_false_iff, Bool.not_eq_true', Bool.not_eq_false', decide_eq_true_eq, decide_eq_false_iff_not] at h2);refine aw_region [.p, .p] ?_;refine st rfl rfl (eff_moveg rfl rfl) rfl ?_;refine st rfl rfl (eff_assigng rfl rfl) rfl ?_;refine st_nil ?_;exact ⟨rfl, (k3, x1, (x1 + x2) / 2), ⟨rfl, rfl, rfl, rfl, rfl, trivial⟩, trivial, rfl, ⟨(by first | omega | (dsimp only; omega) | (simp at *; omega)), (by first | omega | (dsimp only; omega) | (simp at *; omega)), (by first | omega | (dsimp only; omega) | (simp at *; omega)), (by first | omega | (dsimp only; omega) | (simp at *; omega)), hR⟩, by simp⟩
  ·replace h1 : (decide (x1 < x2)) = false := h1;replace hR := condF hR h1;(try simp only [Bool.or_eq_true, Bool.and_eq_true, Bool.or_eq_false_iff, Bool.and_eq_false_iff, Bool.not_eq_true', Bool.not_eq_false', decide_eq_true_eq, decide_eq_false_iff_not] at h1);refine aw_exit ?_;refine aw_seq ?_;obtain ⟨y5, by5, hR⟩ := bindO_inv hR;obtain ⟨y6, by6, hR⟩ := bindO_inv hR;refine aw_region [.p, .p, .p, .p, .p, .p, .p, .p, .p, .p, .p, .p, .p, .p, .p, .p, .p, .p, .p, .p, .p, .p, .p, .p, .p] ?_;refine st rfl rfl (eff_moveg rfl rfl) rfl ?_;refine st rfl rfl (eff_moveg rfl rfl) rfl ?_;refine st rfl rfl (eff_moveg rfl rfl) rfl ?_;refine st rfl rfl (eff_lss rfl rfl rfl) rfl ?_;refine st rfl rfl (eff_moveg rfl rfl) rfl ?_;refine st_g rfl rfl rfl (gb_bool _ _) (fun h => eff_moveg rfl rfl) rfl ?_;refine st_g rfl rfl rfl (gb_bool _ _) (fun h => eff_moveg rfl rfl) rfl ?_;refine st_g rfl rfl rfl (gb_bool _ _) (fun h => eff_ix (f := cInt) (l := a0) (a := y5) rfl Tryz.underlying122 ty3 (gd h rfl) (gd h rfl) (ixO_nn (condT1 by5 h)) (ixO_get (condT1 by5 h))) rfl ?_;refine st_g rfl rfl rfl (gb_bool _ _) (fun h => eff_load rfl ty3 (gd h rfl)) rfl ?_;refine st_g rfl rfl rfl (gb_bool _ _) (fun h => eff_moveg rfl rfl) rfl ?_;refine st_g rfl rfl rfl (gb_bool _ _) (fun h => eff_eql rfl (gd h rfl) (gd h rfl)) rfl ?_;refine st_g rfl rfl rfl (gb_bool _ _) (fun h => eff_moveg rfl (gd h rfl)) rfl ?_;refine st_g rfl rfl rfl (gb_if _ _ _) (fun h => eff_moveg rfl rfl) rfl ?_;refine st_g rfl rfl rfl (gb_if _ _ _) (fun h => eff_moveg rfl rfl) rfl ?_;refine st_g rfl rfl rfl (gb_if _ _ _) (fun h => eff_ix (f := cInt) (l := a0) (a := y6) rfl Tryz.underlying122 ty3 (gd h rfl) (gd h rfl) (ixO_nn (condS by6 h)) (ixO_get (condS by6 h))) rfl ?_;refine st_g rfl rfl rfl (gb_if _ _ _) (fun h => eff_load rfl ty3 (gd h rfl)) rfl ?_;refine st_g rfl rfl rfl (gb_if _ _ _) (fun h => eff_call rfl K1195 rfl (c1195 y6) (ag_cons (gd h rfl) ag_nil)) rfl ?_;refine st_g rfl rfl rfl (gb_if _ _ _) (fun h => eff_moveg rfl (gd h rfl)) rfl ?_;refine st_g rfl rfl rfl (gb_if _ _ _) (fun h => eff_moveg rfl rfl) rfl ?_;refine st_g rfl rfl rfl (gb_if _ _ _) (fun h => eff_call rfl K1195 rfl (c1195 a1) (ag_cons (gd h rfl) ag_nil)) rfl ?_;refine st_g rfl rfl rfl (gb_if _ _ _) (fun h => eff_and rfl (gd h rfl) rfl (gd2 h rfl)) rfl ?_;refine st_g rfl rfl rfl (gb_bool _ _) (fun h => eff_or rfl (gd h rfl) rfl (gd2 h rfl)) rfl ?_;refine st rfl rfl (eff_and rfl rfl rfl rfl) rfl ?_;refine st rfl rfl (eff_assigng rfl rfl) rfl ?_;refine st rfl rfl (eff_assigng rfl rfl) rfl ?_;refine st_nil ?_;refine aw_ret ?_;obtain rfl := Option.some.inj hR;exact resN rfl ⟨rv_g rfl, rv_g rfl, trivial⟩ (by simp)
def s2117 (a0 : List Int) (a1 : Int) : Option Int :=
 bindO (s2149 a0 a1) fun r1 => some r1.1
theorem c2117 {g : List (Nat × List Value)} (a0 : List Int) (a1 : Int) {R : Int}  (hb : a0.length ≤ 1000) (hR : s2117 a0 a1 = some R) : Con (EG g) 117 [G.sl 1 (List.map cInt a0), G.int a1] (G.int R) := by
 unfold s2117 at hR;refine con_of_aw Tryz.func117 rfl rfl fun w0 M0 => ?_;refine len_sl (f := cInt) (l := a0) 0 rfl fun hla0 => ?_;refine aw_seq ?_;refine aw_region [.p] ?_;refine st rfl rfl (eff_assigng rfl rfl) rfl ?_;refine st_nil ?_;refine aw_seq ?_;obtain ⟨r1, br1, hR⟩ := bindO_inv hR;refine aw_region [.p, .p, .p, .p, .p, .p, .p, .p] ?_;refine st rfl rfl (eff_moveg rfl rfl) rfl ?_;refine st rfl rfl (eff_moveg rfl rfl) rfl ?_;refine st rfl rfl (eff_call rfl K2149 rfl (c2149 a0 a1 (by first | assumption | omega | (simp [copyL_len]; done) | (simp [copyL_len]; omega)) br1) (ag_cons rfl (ag_cons rfl ag_nil))) rfl ?_;refine st rfl rfl (eff_moveg rfl rfl) rfl ?_;refine st rfl rfl (eff_extract rfl rfl rfl) rfl ?_;refine st rfl rfl (eff_extract rfl rfl rfl) rfl ?_;refine st rfl rfl (eff_assigng rfl rfl) rfl ?_;refine st rfl rfl (eff_assigng rfl rfl) rfl ?_;refine st_nil ?_;refine aw_seq ?_;refine aw_region [.p, .p] ?_;refine st rfl rfl (eff_moveg rfl rfl) rfl ?_;refine st rfl rfl (eff_assigng rfl rfl) rfl ?_;refine st_nil ?_;refine aw_ret ?_;obtain rfl := Option.some.inj hR;exact res_c rfl (rv_g rfl)
def s2062 (a0 : List Int) (a1 : Int) (a2 : Int) : Option Int :=
 bindO (s2117 a0 (IntKind.i64.wrap (a1 + a2))) fun r1 => bindO (s2117 a0 a1) fun r2 => some (IntKind.i64.wrap (r1 - r2))
theorem c2062 {g : List (Nat × List Value)} (a0 : List Int) (a1 : Int) (a2 : Int) {R : Int}  (hb : a0.length ≤ 1000) (hR : s2062 a0 a1 a2 = some R) : Con (EG g) 62 [G.sl 1 (List.map cInt a0), G.int a1, G.int a2] (G.int R) := by
 unfold s2062 at hR;refine con_of_aw Tryz.func62 rfl rfl fun w0 M0 => ?_;refine len_sl (f := cInt) (l := a0) 0 rfl fun hla0 => ?_;refine aw_seq ?_;refine aw_region [.p] ?_;refine st rfl rfl (eff_assigng rfl rfl) rfl ?_;refine st_nil ?_;refine aw_seq ?_;obtain ⟨r1, br1, hR⟩ := bindO_inv hR;obtain ⟨r2, br2, hR⟩ := bindO_inv hR;refine aw_region [.p, .p, .p, .p, .p, .p, .p, .p, .p, .p] ?_;refine st rfl rfl (eff_moveg rfl rfl) rfl ?_;refine st rfl rfl (eff_moveg rfl rfl) rfl ?_;refine st rfl rfl (eff_moveg rfl rfl) rfl ?_;refine st rfl rfl (eff_addw rfl rfl rfl) rfl ?_;refine st rfl rfl (eff_call rfl K2117 rfl (c2117 a0 (IntKind.i64.wrap (a1 + a2)) (by first | assumption | omega | (simp [copyL_len]; done) | (simp [copyL_len]; omega)) br1) (ag_cons rfl (ag_cons rfl ag_nil))) rfl ?_;refine st rfl rfl (eff_moveg rfl rfl) rfl ?_;refine st rfl rfl (eff_moveg rfl rfl) rfl ?_;refine st rfl rfl (eff_call rfl K2117 rfl (c2117 a0 a1 (by first | assumption | omega | (simp [copyL_len]; done) | (simp [copyL_len]; omega)) br2) (ag_cons rfl (ag_cons rfl ag_nil))) rfl ?_;refine st rfl rfl (eff_subw rfl rfl rfl) rfl ?_;refine st rfl rfl (eff_assigng rfl rfl) rfl ?_;refine st_nil ?_;refine aw_ret ?_;obtain rfl := Option.some.inj hR;exact res_c rfl (rv_g rfl)
def s2167 (a0 : S2062) (a1 : ByteArray) : Bool :=
 decide (a0.Name = a1)
theorem c2167 {g : List (Nat × List Value)} (a0 : S2062) (a1 : ByteArray)    : Con (EG g) 167 [G.agg [G.str a0.Name, G.str a0.Kind, G.str a0.Terminal, G.int a0.Length, G.int a0.Step, G.int a0.fFrom, G.int a0.fTo, G.int a0.Period.fFrom, G.int a0.Period.fTo, G.int a0.Period.Days, G.int a0.Most], G.ref [G.str a1]] (G.bool (s2167 a0 a1)) := by
 generalize hR : s2167 a0 a1 = R;unfold s2167 at hR;refine con_of_aw Tryz.func167 rfl rfl fun w0 M0 => ?_;refine aw_seq ?_;refine aw_region [.p, .p] ?_;refine st rfl rfl (eff_box rfl rfl) rfl ?_;refine st rfl rfl (eff_assigng rfl rfl) rfl ?_;refine st_nil ?_;refine aw_seq ?_;refine aw_region [.p, .p, .p, .p, .p] ?_;refine st rfl rfl (eff_fieldAddr rfl fl2063_0 rfl) rfl ?_;refine st rfl rfl (eff_load rfl ty9 rfl) rfl ?_;refine st rfl rfl (eff_load rfl ty9 rfl) rfl ?_;refine st rfl rfl (eff_seq rfl rfl rfl) rfl ?_;refine st rfl rfl (eff_assigng rfl rfl) rfl ?_;refine st_nil ?_;refine aw_ret ?_;subst hR;exact res_c rfl (rv_g rfl)
def s2166_l1 (a1 : S2062 → Bool) : List S2062 → Nat → Int
 | [], k2 => (-1)
 | y3 :: t4, k2 => (bif (a1 y3) then ((k2 : Nat) : Int) else s2166_l1 a1 t4 (k2 + 1))
def s2166 (a0 : List S2062) (a1 : S2062 → Bool) : Int :=
 s2166_l1 a1 a0 0
theorem c2166 {g : List (Nat × List Value)} (a0 : List S2062) (a1 : S2062 → Bool) {ca1 : G} {ia1 : FuncId} {ka1 : List G} (ha1 : FnIs ca1 ia1 ka1) (Ka1 : Known Tryz.prog ia1) (Ha1 : ∀ (x0 : S2062), Con (EG g) ia1 ([G.agg [G.str x0.Name, G.str x0.Kind, G.str x0.Terminal, G.int x0.Length, G.int x0.Step, G.int x0.fFrom, G.int x0.fTo, G.int x0.Period.fFrom, G.int x0.Period.fTo, G.int x0.Period.Days, G.int x0.Most]] ++ ka1) (G.bool (a1 x0)))   : Con (EG g) 166 [G.sl 11 (List.map S2062.c a0), ca1] (G.int (s2166 a0 a1)) := by
 generalize hR : s2166 a0 a1 = R;unfold s2166 at hR;refine con_of_aw Tryz.func166 rfl rfl fun w0 M0 => ?_;refine len_sl (f := S2062.c) (l := a0) 0 rfl fun hla0 => ?_;refine aw_seq ?_;refine aw_region [.p] ?_;refine st rfl rfl (eff_assigng rfl rfl) rfl ?_;refine st_nil ?_;refine aw_seq ?_;refine aw_seq ?_;refine aw_region [.p, .p, .p] ?_;refine st rfl rfl (eff_moveg rfl rfl) rfl ?_;refine st rfl rfl (eff_lenM (f := S2062.c) (l := a0) rfl Tryz.underlying72 rfl) rfl ?_;refine st rfl rfl (eff_moveg rfl rfl) rfl ?_;refine st_nil ?_;refine aw_block ?_;refine aw_loop_g (γ := Nat × (List S2062)) (fun g => ([(0, .g (G.sl 11 (List.map S2062.c a0))), (1, .g (ca1)), (7, .g (G.int (List.length a0 : Int))), (8, .g (G.int ((g.1 : Nat) : Int)))], [])) (fun g => a0.drop g.1 = g.2 ∧ s2166_l1 a1 g.2 g.1 = R) (fun g => List.length g.2) ⟨rfl, (0, a0), ⟨rfl, rfl, rfl, rfl, trivial⟩, trivial, rfl, ⟨rfl, hR⟩, trivial⟩ ?_
 ·rintro ⟨k2, t4⟩ ⟨hd, hR⟩;replace hd : a0.drop k2 = t4 := hd;replace hR : s2166_l1 a1 t4 k2 = R := hR;refine aw_seq ?_;refine aw_region [.p] ?_;refine st rfl rfl (eff_lss rfl rfl rfl) rfl ?_;refine st_nil ?_;refine len_sl (f := S2062.c) (l := a0) 0 rfl fun hlz1 => ?_;refine aw_seq ?_;refine aw_cond _ rfl (fun h1 => ?_) (fun h1 => ?_)
  ·replace h1 : (decide (((k2 : Nat) : Int) < (List.length a0 : Int))) = true := h1;obtain ⟨y3, t4, rfl, hx1, hd⟩ := drop_cons hd (decT h1);replace h1 := decT h1;rw [s2166_l1] at hR;(try dsimp only at hR);refine aw_skip ?_;refine aw_seq ?_;refine aw_block ?_;refine aw_seq ?_;refine aw_region [.p, .p] ?_;refine st rfl rfl (eff_moveg rfl rfl) rfl ?_;refine st rfl rfl (eff_assigng rfl rfl) rfl ?_;refine st_nil ?_;refine aw_seq ?_;refine aw_region [.p, .p, .p, .p, .p, .p] ?_;refine st rfl rfl (eff_moveg rfl rfl) rfl ?_;refine st rfl rfl (eff_moveg rfl rfl) rfl ?_;refine st rfl rfl (eff_moveg rfl rfl) rfl ?_;refine st rfl rfl (eff_ix (f := S2062.c) (l := a0) (a := y3) rfl Tryz.underlying72 ty2063 rfl rfl (Int.natCast_nonneg _) hx1) rfl ?_;refine st rfl rfl (eff_loadA rfl ty2063 rfl rfl rfl) rfl ?_;refine st rfl rfl (eff_callf rfl ha1 Ka1 rfl (Ha1 y3) (ag_cons rfl ag_nil)) rfl ?_;refine st_nil ?_;refine aw_cond _ rfl (fun h3 => ?_) (fun h3 => ?_)
   ·replace h3 : ((a1 y3)) = true := h3;replace hR := condT hR h3;(try simp only [Bool.or_eq_true, Bool.and_eq_true, Bool.or_eq_false_iff, Bool.and_eq_false_iff, Bool.not_eq_true', Bool.not_eq_false', decide_eq_true_eq, decide_eq_false_iff_not] at h3);refine aw_seq ?_;refine aw_region [.p, .p] ?_;refine st rfl rfl (eff_moveg rfl rfl) rfl ?_;refine st rfl rfl (eff_assigng rfl rfl) rfl ?_;refine st_nil ?_;refine aw_ret ?_;subst hR;exact res_c rfl (rv_g rfl)
   ·replace h3 : ((a1 y3)) = false := h3;replace hR := condF hR h3;(try simp only [Bool.or_eq_true, Bool.and_eq_true, Bool.or_eq_false_iff, Bool.and_eq_false_iff, Bool.not_eq_true', Bool.not_eq_false', decide_eq_true_eq, decide_eq_false_iff_not] at h3);refine aw_skip ?_;refine aw_region [.p, .p] ?_;refine st rfl rfl (eff_add rfl rfl rfl (by unfold I64; omega)) rfl ?_;refine st rfl rfl (eff_moveg rfl rfl) rfl ?_;refine st_nil ?_;exact ⟨rfl, (k2 + 1, t4), ⟨rfl, rfl, rfl, rfl, trivial⟩, trivial, rfl, ⟨hd, hR⟩, by simp⟩
  ·replace h1 : (decide (((k2 : Nat) : Int) < (List.length a0 : Int))) = false := h1;obtain rfl := drop_nil hd (decF h1);rw [s2166_l1] at hR;refine aw_exit ?_;refine aw_seq ?_;refine aw_region [.p] ?_;refine st rfl rfl (eff_assigng rfl rfl) rfl ?_;refine st_nil ?_;refine aw_ret ?_;subst hR;exact res_c rfl (rv_g rfl)
def s2138 (a0 : List S2062) (a1 : ByteArray) : Int :=
 (s2166 a0 (fun x0 => s2167 x0 a1))
theorem c2138 {g : List (Nat × List Value)} (a0 : List S2062) (a1 : ByteArray)    : Con (EG g) 138 [G.sl 11 (List.map S2062.c a0), G.str a1] (G.int (s2138 a0 a1)) := by
 generalize hR : s2138 a0 a1 = R;unfold s2138 at hR;refine con_of_aw Tryz.func138 rfl rfl fun w0 M0 => ?_;refine len_sl (f := S2062.c) (l := a0) 0 rfl fun hla0 => ?_;refine aw_seq ?_;refine aw_region [.p, .p] ?_;refine st rfl rfl (eff_box rfl rfl) rfl ?_;refine st rfl rfl (eff_assigng rfl rfl) rfl ?_;refine st_nil ?_;refine aw_seq ?_;refine aw_region [.p, .p, .p, .p] ?_;refine st rfl rfl (eff_moveg rfl rfl) rfl ?_;refine st rfl rfl (eff_makeF rfl rfl rfl) rfl ?_;refine st rfl rfl (eff_call rfl K2166 rfl (c2166 a0 (fun x0 => s2167 x0 a1) fnis_fn K2167 (fun x0 => c2167 x0 a1)) (ag_cons rfl (ag_cons rfl ag_nil))) rfl ?_;refine st rfl rfl (eff_assigng rfl rfl) rfl ?_;refine st_nil ?_;refine aw_ret ?_;subst hR;exact res_c rfl (rv_g rfl)
def s2099_l1 (a0 : List S2062) : List S2062 → Nat → Int
 | [], k2 => 0
 | y3 :: t4, k2 => (bif decide ((s2056 [(s2057 y3), (s2067 (decide (0 ≤ (s2138 (List.take (Int.toNat ((k2 : Nat) : Int)) a0) y3.Name))) 9)]) ≠ 0) then (s2056 [(s2057 y3), (s2067 (decide (0 ≤ (s2138 (List.take (Int.toNat ((k2 : Nat) : Int)) a0) y3.Name))) 9)]) else s2099_l1 a0 t4 (k2 + 1))
def s2099 (a0 : List S2062) : Int :=
 (bif decide (32 < (List.length a0 : Int)) then 5 else s2099_l1 a0 a0 0)
theorem c2099 {g : List (Nat × List Value)} (a0 : List S2062)    : Con (EG g) 99 [G.sl 11 (List.map S2062.c a0)] (G.int (s2099 a0)) := by
 generalize hR : s2099 a0 = R;unfold s2099 at hR;refine con_of_aw Tryz.func99 rfl rfl fun w0 M0 => ?_;refine len_sl (f := S2062.c) (l := a0) 0 rfl fun hla0 => ?_;refine aw_seq ?_;refine aw_region [.p] ?_;refine st rfl rfl (eff_assigng rfl rfl) rfl ?_;refine st_nil ?_;refine aw_seq ?_;refine aw_seq ?_;refine aw_region [.p, .p, .p] ?_;refine st rfl rfl (eff_moveg rfl rfl) rfl ?_;refine st rfl rfl (eff_lenM (f := S2062.c) (l := a0) rfl Tryz.underlying72 rfl) rfl ?_;refine st rfl rfl (eff_gtr rfl rfl rfl) rfl ?_;refine st_nil ?_;refine aw_cond _ rfl (fun h1 => ?_) (fun h1 => ?_)
 ·replace h1 : (decide (32 < (List.length a0 : Int))) = true := h1;replace hR := condT hR h1;(try simp only [Bool.or_eq_true, Bool.and_eq_true, Bool.or_eq_false_iff, Bool.and_eq_false_iff, Bool.not_eq_true', Bool.not_eq_false', decide_eq_true_eq, decide_eq_false_iff_not] at h1);refine aw_seq ?_;refine aw_region [.p] ?_;refine st rfl rfl (eff_assigng rfl rfl) rfl ?_;refine st_nil ?_;refine aw_ret ?_;subst hR;exact res_c rfl (rv_g rfl)
 ·replace h1 : (decide (32 < (List.length a0 : Int))) = false := h1;replace hR := condF hR h1;(try simp only [Bool.or_eq_true, Bool.and_eq_true, Bool.or_eq_false_iff, Bool.and_eq_false_iff, Bool.not_eq_true', Bool.not_eq_false', decide_eq_true_eq, decide_eq_false_iff_not] at h1);refine aw_skip ?_;refine aw_seq ?_;refine aw_seq ?_;refine aw_region [.p, .p, .p] ?_;refine st rfl rfl (eff_moveg rfl rfl) rfl ?_;refine st rfl rfl (eff_lenM (f := S2062.c) (l := a0) rfl Tryz.underlying72 rfl) rfl ?_;refine st rfl rfl (eff_moveg rfl rfl) rfl ?_;refine st_nil ?_;refine aw_block ?_;refine aw_loop_g (γ := Nat × (List S2062)) (fun g => ([(0, .g (G.sl 11 (List.map S2062.c a0))), (9, .g (G.sl 11 (List.map S2062.c a0))), (10, .g (G.int (List.length a0 : Int))), (11, .g (G.int ((g.1 : Nat) : Int)))], [])) (fun g => a0.drop g.1 = g.2 ∧ s2099_l1 a0 g.2 g.1 = R) (fun g => List.length g.2) ⟨rfl, (0, a0), ⟨rfl, rfl, rfl, rfl, trivial⟩, trivial, rfl, ⟨rfl, hR⟩, trivial⟩ ?_
  ·rintro ⟨k2, t4⟩ ⟨hd, hR⟩;replace hd : a0.drop k2 = t4 := hd;replace hR : s2099_l1 a0 t4 k2 = R := hR;refine aw_seq ?_;refine aw_region [.p] ?_;refine st rfl rfl (eff_lss rfl rfl rfl) rfl ?_;refine st_nil ?_;refine len_sl (f := S2062.c) (l := a0) 0 rfl fun hlz1 => ?_;refine aw_seq ?_;refine aw_cond _ rfl (fun h2 => ?_) (fun h2 => ?_)
   ·replace h2 : (decide (((k2 : Nat) : Int) < (List.length a0 : Int))) = true := h2;obtain ⟨y3, t4, rfl, hx1, hd⟩ := drop_cons hd (decT h2);replace h2 := decT h2;rw [s2099_l1] at hR;(try dsimp only at hR);refine aw_skip ?_;refine aw_seq ?_;refine aw_block ?_;refine aw_seq ?_;refine aw_region [.p, .p, .p, .w, .p, .w] ?_;refine st rfl rfl (eff_moveg rfl rfl) rfl ?_;refine st rfl rfl (eff_ix (f := S2062.c) (l := a0) (a := y3) rfl Tryz.underlying72 ty2063 rfl rfl (Int.natCast_nonneg _) hx1) rfl ?_;refine st rfl rfl (eff_loadA rfl ty2063 rfl rfl rfl) rfl ?_;refine st_w rfl rfl (eff_alloc 4 rfl z2063 rfl rfl) rfl ?_;refine st rfl rfl (eff_assigng rfl rfl) rfl ?_;refine st_wn rfl rfl (eff_store (tv := .g (G.agg [G.str y3.Name, G.str y3.Kind, G.str y3.Terminal, G.int y3.Length, G.int y3.Step, G.int y3.fFrom, G.int y3.fTo, G.int y3.Period.fFrom, G.int y3.Period.fTo, G.int y3.Period.Days, G.int y3.Most])) rfl ty2063 rfl rfl rfl rfl rfl) ?_;refine st_nil ?_;refine aw_seq ?_;refine aw_draw [.r, .p, .p, .p, .p, .p, .r, .p, .p, .p, .p, .p, .p] (by kernel_rfl) ?_;refine st_r rfl rfl (eff_loadOA rfl ty2063 rfl rfl rfl rfl) rfl ?_;refine st rfl rfl (eff_call rfl K2057 rfl (c2057 y3) (ag_cons rfl ag_nil)) rfl ?_;refine st rfl rfl (eff_moveg rfl rfl) rfl ?_;refine st rfl rfl (eff_moveg rfl rfl) rfl ?_;refine st rfl rfl (eff_slG (f := S2062.c) (l := a0) rfl Tryz.underlying72 ty2063 rfl bnd_none (bnd_some rfl (Int.natCast_nonneg _)) (Nat.zero_le _) (le_get hx1)) rfl ?_;refine st rfl rfl (eff_fieldO rfl fl2063_0 rfl) rfl ?_;refine st_r rfl rfl (eff_loadO rfl ty9 rfl rfl rfl) rfl ?_;refine st rfl rfl (eff_call rfl K2138 rfl (c2138 (List.take (Int.toNat ((k2 : Nat) : Int)) a0) y3.Name) (ag_cons rfl (ag_cons rfl ag_nil))) rfl ?_;refine st rfl rfl (eff_geq rfl rfl rfl) rfl ?_;refine st rfl rfl (eff_call rfl K2067 rfl (c2067 (decide (0 ≤ (s2138 (List.take (Int.toNat ((k2 : Nat) : Int)) a0) y3.Name))) 9) (ag_cons rfl (ag_cons rfl ag_nil))) rfl ?_;refine st rfl rfl (eff_buildSlice rfl Tryz.underlying131 ty37 z37 rfl (ps_cons rfl (ps_cons rfl ps_nil)) rfl (by simp []) (by decide)) rfl ?_;refine st rfl rfl (eff_call rfl K2056 rfl (c2056 [(s2057 y3), (s2067 (decide (0 ≤ (s2138 (List.take (Int.toNat ((k2 : Nat) : Int)) a0) y3.Name))) 9)]) (ag_cons rfl ag_nil)) rfl ?_;refine st rfl rfl (eff_assigng rfl rfl) rfl ?_;refine st_nil ?_;refine aw_seq ?_;refine aw_region [.p, .p] ?_;refine st rfl rfl (eff_moveg rfl rfl) rfl ?_;refine st rfl rfl (eff_neq rfl rfl rfl) rfl ?_;refine st_nil ?_;refine aw_cond _ rfl (fun h4 => ?_) (fun h4 => ?_)
    ·replace h4 : (decide ((s2056 [(s2057 y3), (s2067 (decide (0 ≤ (s2138 (List.take (Int.toNat ((k2 : Nat) : Int)) a0) y3.Name))) 9)]) ≠ 0)) = true := h4;replace hR := condT hR h4;(try simp only [Bool.or_eq_true, Bool.and_eq_true, Bool.or_eq_false_iff, Bool.and_eq_false_iff, Bool.not_eq_true', Bool.not_eq_false', decide_eq_true_eq, decide_eq_false_iff_not] at h4);refine aw_seq ?_;refine aw_region [.p, .p] ?_;refine st rfl rfl (eff_moveg rfl rfl) rfl ?_;refine st rfl rfl (eff_assigng rfl rfl) rfl ?_;refine st_nil ?_;refine aw_ret ?_;subst hR;exact res_c rfl (rv_g rfl)
    ·replace h4 : (decide ((s2056 [(s2057 y3), (s2067 (decide (0 ≤ (s2138 (List.take (Int.toNat ((k2 : Nat) : Int)) a0) y3.Name))) 9)]) ≠ 0)) = false := h4;replace hR := condF hR h4;(try simp only [Bool.or_eq_true, Bool.and_eq_true, Bool.or_eq_false_iff, Bool.and_eq_false_iff, Bool.not_eq_true', Bool.not_eq_false', decide_eq_true_eq, decide_eq_false_iff_not] at h4);refine aw_skip ?_;refine aw_region [.p, .p] ?_;refine st rfl rfl (eff_add rfl rfl rfl (by unfold I64; omega)) rfl ?_;refine st rfl rfl (eff_moveg rfl rfl) rfl ?_;refine st_nil ?_;exact ⟨rfl, (k2 + 1, t4), ⟨rfl, rfl, rfl, rfl, trivial⟩, trivial, rfl, ⟨hd, hR⟩, by simp⟩
   ·replace h2 : (decide (((k2 : Nat) : Int) < (List.length a0 : Int))) = false := h2;obtain rfl := drop_nil hd (decF h2);rw [s2099_l1] at hR;refine aw_exit ?_;refine aw_seq ?_;refine aw_region [.p] ?_;refine st rfl rfl (eff_assigng rfl rfl) rfl ?_;refine st_nil ?_;refine aw_ret ?_;subst hR;exact res_c rfl (rv_g rfl)
open Go.WideMaps (KeyLaw)
structure KOk (P : Program) (kt : TypeId) {K : Type} (kf : K → Value) (ok : K → Prop) : Prop where
 law : KeyLaw P kt
 key : ∀ k, ok k → ∃ l, keyOf P kt (kf k) = some l
 inj : ∀ a b, kf a = kf b → a = b
section
variable {E : Env} {w0 : World} {M0 : Nat → Prop}
section find
variable {P : Program} {kt : TypeId} {K V : Type} [DecidableEq K] {kf : K → Value} {ok : K → Prop} {vf : V → G} {M : Nat → Prop}
theorem mfindK0 {k : K} (inj : ∀ a b, kf a = kf b → a = b) {w : World} : ∀ {m : List (K × V)} {l : List MapEntry}, MFits w M (m.map fun p => (kf p.1, vf p.2)) l → (l.map (·.key)).Nodup →
  (mget m k = none ∧ (∀ x ∈ l, x.key ≠ kf k) ∧ ∀ v, mset m k v = m ++ [(k, v)]) ∨
  ∃ j e b, mget m k = some b ∧ l[j]? = some e ∧ e.key = kf k ∧ (vf b).p w M e.val ∧ (∀ v, mset m k v = m.set j (k, v)) ∧ ∀ j' e', l[j']? = some e' → e'.key = kf k → j' = j
 | [], [], _, _ => .inl ⟨rfl, by simp, fun _ => rfl⟩
 | (a, b) :: m, e :: l, h, hn => by
  obtain ⟨⟨h1, h2⟩, h3⟩ := h;rw [List.map_cons, List.nodup_cons] at hn
  by_cases hak : a = k
  ·subst hak;refine .inr ⟨0, e, b, by simp [mget], rfl, h1, h2, fun v => by simp [mset], fun j' e' hj hk => ?_⟩
   cases j' with
   | zero => rfl
   | succ j' =>
    exfalso
    apply hn.1
    have hm : e' ∈ l := List.mem_of_getElem? (by simpa using hj);rw [show e.key = e'.key from h1.trans hk.symm];exact List.mem_map_of_mem hm
  ·have hne : e.key ≠ kf k := fun q => hak (inj a k (h1.symm.trans q))
   rcases mfindK0 (k := k) inj h3 hn.2 with ⟨g1, g3, g4⟩ | ⟨j, e', b', g1, g3, g4, g5, g6, g7⟩
   ·exact .inl ⟨by simp [mget, hak, g1], fun x hx => by
     rcases List.mem_cons.1 hx with rfl | hx
     ·exact hne
     ·exact g3 x hx, fun v => by simp [mset, hak, g4]⟩
   ·refine .inr ⟨j + 1, e', b', by simp [mget, hak, g1], by simpa using g3, g4, g5, fun v => by simp [mset, hak, g6], fun j' e2 hj hk => ?_⟩
    cases j' with
    | zero => simp at hj; subst hj; exact absurd hk hne
    | succ j' => rw [g7 j' e2 (by simpa using hj) hk]
 | [], _ :: _, h, _ => h.elim
 | _ :: _, [], h, _ => h.elim
theorem mfindK {k : K} (KO : KOk P kt kf ok) (hk : ok k) (w : World) {m : List (K × V)} {l : List MapEntry} (h : MFits w M (m.map fun p => (kf p.1, vf p.2)) l) (hn : (l.map (·.key)).Nodup) (hm : ∀ p ∈ m, ok p.1) :
  (mget m k = none ∧ (Instr.findKey kt (kf k) l).run P w = .ok none w ∧ (∀ x ∈ l, x.key ≠ kf k) ∧ ∀ v, mset m k v = m ++ [(k, v)]) ∨
  ∃ j e b, mget m k = some b ∧ (Instr.findKey kt (kf k) l).run P w = .ok (some (j, e.val)) w ∧ l[j]? = some e ∧ e.key = kf k ∧ (vf b).p w M e.val ∧ ∀ v, mset m k v = m.set j (k, v) := by
 obtain ⟨lk, hlk⟩ := KO.key k hk
 have hkeys : ∀ e ∈ l, ∃ q, keyOf P kt e.key = some q := by
  have : ∀ {m : List (K × V)} {l : List MapEntry}, (∀ p ∈ m, ok p.1) → MFits w M (m.map fun p => (kf p.1, vf p.2)) l → ∀ e ∈ l, ∃ q, keyOf P kt e.key = some q := by
   intro m
   induction m with
   | nil => intro l hm h e he; cases l with
    | nil => cases he
    | cons => exact h.elim
   | cons p m ih => intro l hm h e he; cases l with
    | nil => cases he
    | cons e0 l =>
     rcases List.mem_cons.1 he with rfl | he
     ·obtain ⟨q, hq⟩ := KO.key p.1 (hm p List.mem_cons_self);exact ⟨q, by rw [h.1.1]; exact hq⟩
     ·exact ih (fun q hq => hm q (List.mem_cons_of_mem _ hq)) h.2 e he
  exact this hm h
 rcases KO.law.find w hlk l hkeys with ⟨f1, f2⟩ | ⟨j, e, f1, f2, f3⟩
 ·rcases mfindK0 (k := k) KO.inj h hn with ⟨g1, g3, g4⟩ | ⟨j, e, b, g1, g3, g4, g5, g6, g7⟩
  ·exact .inl ⟨g1, f1, g3, g4⟩
  ·exact absurd g4 (f2 e (List.mem_of_getElem? g3))
 ·rcases mfindK0 (k := k) KO.inj h hn with ⟨g1, g3, g4⟩ | ⟨j', e', b, g1, g3, g4, g5, g6, g7⟩
  ·exact absurd f3 (g3 e (List.mem_of_getElem? f2))
  ·have hj := g7 j e f2 f3;subst hj;rw [f2] at g3
   cases g3
   exact .inr ⟨j, e, b, g1, f1, f2, g4, g5, g6⟩
end find
section ops
variable {K V : Type} [DecidableEq K] {kf : K → Value} {ok : K → Prop} {vf : V → G} {o : Oper} {mem : Mem} {ev : Operand → TV} {t kt et : TypeId} {x ix : Operand} {id : Nat} {m : List (K × V)} {k : K} {z : V}
theorem run_lookupK (KO : KOk E.P kt kf ok) (hk : ok k) (hmk : ∀ p ∈ m, ok p.1) {ρ : Rho} {w : World} (hm : MRel E w0 M0 ρ mem w) (ht : E.P.underlying t = some (.map kt et)) {zv : Value} (hz : (E.P.info? et).bind (·.zero) = some zv) (hz0 : ∀ w M, (vf z).p w M zv)
  (hb : lookO mem id = some (mpB kf vf m)) {v : Value} (hv : TRel w (owned M0 ρ) ρ (.omap id) v) (ok : Bool) : ∃ u, (vf (mgetD m k z)).p w (owned M0 ρ) u ∧ (Instr.lookup t v (kf k) ok).run E.P w = .ok (if ok then .tuple #[u, .bool (mhas m k)] else u) w := by
 obtain ⟨ow, en, cl, h1, rfl, h2, h3, h4⟩ := look_mp hm hb hv
 have hzr : (zeroValue et).run E.P w = .ok zv w := by
  cases hi : E.P.info? et with
  | none => rw [hi] at hz; cases hz
  | some i =>
   rw [hi] at hz;have hz : i.zero = some zv := hz
   simp [zeroValue, typeInfo, hi, hz]
 obtain ⟨lk, hlk⟩ := KO.key k hk;have hck := KO.law.check w en.isEmpty hlk
 rcases mfindK (k := k) KO hk w h3 h4.2.2 hmk with ⟨g1, g2, _⟩ | ⟨j, e, b, g1, g2, g3, g4, g5, _⟩
 ·refine ⟨zv, by simp only [mgetD, g1]; exact hz0 _ _, ?_⟩
  simp [Instr.lookup, run_underlying ht, MapKept.run_getObj_map h2, hck, g2, hzr, mhas, g1]
 ·refine ⟨e.val, by simp only [mgetD, g1]; exact g5, ?_⟩
  simp [Instr.lookup, run_underlying ht, MapKept.run_getObj_map h2, hck, g2, mhas, g1]
theorem eff_lookup2K (KO : KOk E.P kt kf ok) (hk : ok k) (hmk : ∀ p ∈ m, ok p.1) {zv : Value} (ho : o.op = .lookup t x ix true) (ht : E.P.underlying t = some (.map kt et)) (hz : (E.P.info? et).bind (·.zero) = some zv) (hz0 : ∀ w M, (vf z).p w M zv)
  (hx : ev x = .omap id) (hi2 : ∀ w M ρ u, TRel w M ρ (ev ix) u → u = kf k) (hb : lookO mem id = some (mpB kf vf m)) : Eff E o mem ev (.g (.tup [vf (mgetD m k z), G.bool (mhas m k)])) := by
 intro w0 M0 ρ w e hm he;have h1 := he x (by rw [ho]; simp [Op.operands]);rw [hx] at h1;have h2 := he ix (by rw [ho]; simp [Op.operands]);have h2' : e ix = kf k := hi2 _ _ _ _ h2;obtain ⟨u, g1, g2⟩ := run_lookupK (z := z) (k := k) KO hk hmk hm ht hz hz0 hb h1 true
 have : (execOp e o).run E.P w = .ok (.value (.tuple #[u, .bool (mhas m k)])) w := by simp only [execOp, ho, h2', Sem.run_bind, g2, Result.andThen_ok, Sem.run_pure]; rfl
 rw [this];exact ⟨Grow.refl w, [u, .bool (mhas m k)], rfl, g1, rfl, trivial⟩
theorem eff_updateK (KO : KOk E.P kt kf ok) (hk : ok k) (hmk : ∀ p ∈ m, ok p.1) {y : Operand} {v : V} {ins : Bool} (ho : o.op = (if ins then .insert t x ix y else .mapUpdate t x ix y)) (ht : E.P.underlying t = some (.map kt et))
  (hx : ev x = .omap id) (hi2 : ∀ w M ρ u, TRel w M ρ (ev ix) u → u = kf k) (hy : ev y = .g (vf v)) (hb : lookO mem id = some (mpB kf vf m)) : EffW E o mem ev undefT ((id, mpB kf vf (mset m k v)) :: mem) none := by
 intro w0 M0 ρ w e' hm he
 have hop : ∀ (P : Op → Prop), P (.insert t x ix y) → P (.mapUpdate t x ix y) → P o.op := fun P h1 h2 => by rw [ho]; cases ins <;> assumption
 have hmem : ∀ q, q = x ∨ q = ix ∨ q = y → q ∈ o.op.operands := fun q hq => by
  rw [ho]; cases ins <;> simp [Op.operands] <;> exact hq
 have h1 := he x (hmem _ (.inl rfl));rw [hx] at h1;have h2 := he ix (hmem _ (.inr (.inl rfl)));have h2' : e' ix = kf k := hi2 _ _ _ _ h2;have h3 := he y (hmem _ (.inr (.inr rfl)));rw [hy] at h3;have h3' : (vf v).p w (owned M0 ρ) (e' y) := h3;obtain ⟨ow, en, cl, g1, g2, g3, g4, g5⟩ := look_mp hm hb h1;obtain ⟨lk, hlk⟩ := KO.key k hk;have hck := KO.law.check w false hlk
 have hexec : execOp e' o = (do Instr.mapUpdate t (e' x) (e' ix) (e' y); pure .skip) := by cases ins <;> simp [execOp, ho]
 have hset : ∀ (ob : Obj), (w.heap.setIfInBounds ow.b ob).size = w.heap.size := fun ob => by simp
 have hlt : ow.b < w.heap.size := (Array.getElem?_eq_some_iff.1 g3).1
 -- what the new map is
 obtain ⟨en', cl', hrun, hf, hst⟩ : ∃ en' cl', (Instr.mapUpdate t (e' x) (e' ix) (e' y)).run E.P w = .ok () { w with heap := w.heap.setIfInBounds ow.b (.map en' cl') } ∧ MFits w (owned M0 ρ) ((mset m k v).map fun p => (kf p.1, vf p.2)) en'.toList ∧ MapKept.Stamped en' cl' := by
  rcases mfindK (k := k) KO hk w g4 g5.2.2 hmk with ⟨q1, q2, q3, q4⟩ | ⟨j, e, b, q1, q2, q3, q4, q5, q6⟩
  ·refine ⟨en.push { key := kf k, val := e' y, born := cl }, cl + 1, ?_, ?_, MapKept.stamped_push g5 q3⟩
   ·simp [Instr.mapUpdate, g2, h2', run_underlying ht, MapKept.run_getObj_map g3, hck, q2, MapKept.run_setObj_map _ g3]
   ·rw [q4 v, List.map_append, Array.toList_push];exact MFits.push g4 rfl h3'
  ·have hj : en[j]? = some e := by simpa using q3
   refine ⟨en.modify j fun e => { e with key := kf k, val := e' y }, cl, ?_, ?_, MapKept.stamped_modify g5 _ _ (fun _ _ => rfl) (fun e0 _ he0 => by rw [hj] at he0; cases he0; exact q4.symm)⟩
   ·simp [Instr.mapUpdate, g2, h2', run_underlying ht, MapKept.run_getObj_map g3, hck, q2, hj, q4, KO.law.stays w hlk, MapKept.run_setObj_map _ g3]
   ·rw [q6 v, toList_modify q3, List.map_set];exact MFits.set j g4 rfl h3'
 have hrun2 : (execOp e' o).run E.P w = .ok .skip { w with heap := w.heap.setIfInBounds ow.b (.map en' cl') } := by rw [hexec, Sem.run_bind, hrun]; rfl
 rw [hrun2];have hoth := (MapKept.heap_set (o' := .map en' cl') g3).2;have hd : Diff ρ id w { w with heap := w.heap.setIfInBounds ow.b (.map en' cl') } := ⟨rfl, rfl, rfl, by simp, fun b _ hne => hoth b (hne ow g1)⟩
 have hM : ∀ b, b < w.heap.size → owned M0 (rhoSet ρ id (some ow)) b → owned M0 ρ b := by
  rintro b hb (h | ⟨i, o, h, rfl⟩)
  ·exact .inl h
  ·by_cases hi : i = id
   ·subst hi; rw [rhoSet_same] at h; cases h; exact .inr ⟨i, ow, g1, rfl⟩
   ·exact .inr ⟨i, o, by simpa [rhoSet, hi] using h, rfl⟩
 have hh : ∀ b, b < w.heap.size → ¬ owned M0 ρ b → ({ w with heap := w.heap.setIfInBounds ow.b (.map en' cl') } : World).heap[b]? = w.heap[b]? := fun b _ hno => hoth b fun he => hno (.inr ⟨id, ow, g1, he.symm⟩);obtain ⟨k1, k2⟩ := mrel_upd (id := id) (x := some ow) (blk' := mpB kf vf (mset m k v)) none hm hd (fun o ho => by cases ho; exact ⟨.inr ⟨ow, g1, rfl⟩, by simpa using hlt⟩) (.inr ⟨rfl, .inr g1⟩) (fun _ b _ _ => noref_none b) (.inl rfl)
  ⟨ow, en', cl', rhoSet_same _ _ _, (MapKept.heap_set (o' := .map en' cl') g3).1, hf.mono hh hM, hst⟩
 exact ⟨_, k1, k2, rfl⟩
end ops
end
end Go.Sim
set_option maxRecDepth 10000
namespace Go.Sim
open Go.Proofs
def kf2 (p : ByteArray × ByteArray) : Value := .agg #[.string p.1, .string p.2]
def ok2 (p : ByteArray × ByteArray) : Prop := p.1.size ≤ 1000 ∧ p.2.size ≤ 1000
theorem lay2 : laidOutB Tryz.prog = true := by kernel_rfl
theorem u167 : Tryz.prog.underlying 167 = some (.array 2 9) := by kernel_rfl
theorem kt167 : Tryz.prog.keyType 167 = true := by kernel_rfl
theorem co167 : Tryz.prog.cellsOf 167 = 2 := by kernel_rfl
theorem co9 : Tryz.prog.cellsOf 9 = 1 := by kernel_rfl
theorem sz0 : ∃ n, Tryz.prog.types.size + 1 = n + 2 := ⟨Tryz.prog.types.size - 1, by
 have : 1 ≤ Tryz.prog.types.size := of_decide_eq_true (by kernel_rfl)
 omega⟩
theorem ko2 : KOk Tryz.prog 167 kf2 ok2 where
 law := deep_law_laid lay2 (m := 3) (by decide) (k := 167) (of_decide_eq_true (by kernel_rfl)) (by kernel_rfl) (by kernel_rfl)
 key := fun p hp => by
  obtain ⟨n, hn⟩ := sz0
  have h1 : p.1.size ≤ maxLen := by have := hp.1; unfold maxLen; omega
  have h2 : p.2.size ≤ maxLen := by have := hp.2; unfold maxLen; omega
  have hf : (kf2 p).formed Tryz.prog 167 = true := by
   unfold kf2 Value.formed;rw [u167, co167]; rfl
  have hl : (Tryz.prog.keyLits (n + 2) 167 (kf2 p).cells.toList) = some [Lit.string p.1.data.toList, Lit.string p.2.data.toList] := by
   unfold Program.keyLits;rw [u167];simp only [co167, co9, kf2, Value.cells, List.length_cons, List.length_nil, Nat.zero_add, ↓reduceIte];have hr : List.range 2 = [0, 1] := rfl;unfold Program.keyLits;rw [hr, Tryz.underlying9]
   simp [h1, h2]
  unfold keyOf;rw [u167];simp only [kt167, hf, Bool.and_self, ↓reduceIte, hn, hl, Option.map_some];exact ⟨_, rfl⟩
 inj := fun a b h => by
  unfold kf2 at h
  injection h with h
  have h := congrArg Array.toList h;simp only [List.cons.injEq, Value.string.injEq, and_true] at h;exact Prod.ext h.1 h.2
section
variable {E : Env} {w0 : World} {M0 : Nat → Prop}
def Seq (E : Env) (g : FuncId) (caps : List G) {α : Type} (enc : α → Value) (xs : List α) : Prop :=
 ∀ (w : World) (M : Nat → Prop) (cs : List Value) (l : Nat) (J Jx : List α → World → Prop), (∀ b, M b → b < w.heap.size) → GlOk E w M → FitsT w M caps cs →
  (∀ pre W W', J pre W → Grow W W' → J pre W') → (∀ pre W W', Jx pre W → Grow W W' → Jx pre W') →
  (∀ pre x post W1, xs = pre ++ x :: post → BelowX M w W1 → J pre W1 → YieldAt Fence.wide 0 E.P l #[enc x] W1 fun e W' =>
   BelowX M W1 W' ∧ ((e = .returned (.bool true) ∧ J (pre ++ [x]) W') ∨ (e = .returned (.bool false) ∧ Jx (pre ++ [x]) W'))) →
  J [] w → CallsIn Fence.wide 0 E.P g (#[.func (.yield l) #[] #[]] ++ cs.toArray) w fun e W' => (∃ v, e = .returned v) ∧ (J xs W' ∨ ∃ pre, pre <+: xs ∧ Jx pre W')
def Env.turn (E : Env) (lp : Nat) (mem : Mem) (x : Nat → Option Own) : Env := ⟨E.P, E.gl, E.orders, mem.map fun p => (p.1, x p.1), some lp, false⟩
theorem Con.turn {f : FuncId} {args : List G} {r : G} {lp : Nat} {mem : Mem} {x : Nat → Option Own} (h : Con E f args r) : Con (E.turn lp mem x) f args r := h
theorem ConB.turn {f : FuncId} {args : List TV} {r : G} {m m' : Mem} {lp : Nat} {mem : Mem} {x : Nat → Option Own} (h : ConB E f args m r m') : ConB (E.turn lp mem x) f args m r m' := h
theorem mrel_turn {mem : Mem} {ρ : Rho} {W : World} {Mo : Nat → Prop} {x : Nat → Option Own} (lp : Nat) (hMo : ∀ b, Mo b → b < W.heap.size) (hgl : GlOk E W Mo)
  (hdom : ∀ id y, ρ id = some y → ∃ blk, lookO mem id = some blk) (hx : ∀ id blk, lookO mem id = some blk → ρ id = some (x id)) (hsub : ∀ id ow, ρ id = some (some ow) → Mo ow.b)
  (hinj : ∀ id id' ow ow', ρ id = some (some ow) → ρ id' = some (some ow') → ow.b = ow'.b → id = id') (hblk : ∀ id blk, lookO mem id = some blk → BRel W Mo ρ id blk) :
  owned (fun b => Mo b ∧ ¬ ∃ id ow, ρ id = some (some ow) ∧ ow.b = b) ρ = Mo ∧ (∀ b, (E.turn lp mem x).lent b ↔ ∃ id ow, ρ id = some (some ow) ∧ ow.b = b) ∧
  MRel (E.turn lp mem x) W (fun b => Mo b ∧ ¬ ∃ id ow, ρ id = some (some ow) ∧ ow.b = b) ρ mem W := by
 have hown : owned (fun b => Mo b ∧ ¬ ∃ id ow, ρ id = some (some ow) ∧ ow.b = b) ρ = Mo := by
  funext b
  apply propext
  constructor
  ·rintro (h | ⟨id, o, h, rfl⟩)
   ·exact h.1
   ·exact hsub _ _ h
  ·intro h
   by_cases hb : ∃ id ow, ρ id = some (some ow) ∧ ow.b = b
   ·obtain ⟨id, ow, h1, h2⟩ := hb; exact .inr ⟨id, ow, h1, h2⟩
   ·exact .inl ⟨h, hb⟩
 have hback : ∀ id y, ρ id = some y → lookO (E.turn lp mem x).bow id = some y := fun id y h => by
  obtain ⟨b, hb⟩ := hdom id y h;refine (lookO_mapk x).2 ⟨⟨b, hb⟩, ?_⟩;have := hx id b hb;rw [h] at this; cases this; rfl
 have hkeep : ∀ id y, lookO (E.turn lp mem x).bow id = some y → ρ id = some y := fun id y h => by
  obtain ⟨⟨b, h1⟩, rfl⟩ := (lookO_mapk x).1 h;exact hx id b h1
 have hlent : ∀ b, (E.turn lp mem x).lent b ↔ ∃ id ow, ρ id = some (some ow) ∧ ow.b = b := fun b =>
  ⟨fun ⟨id, ow, h1, h2⟩ => ⟨id, ow, hkeep id _ h1, h2⟩, fun ⟨id, ow, h1, h2⟩ => ⟨id, ow, hback id _ h1, h2⟩⟩
 refine ⟨hown, hlent, BelowX.refl _ W, fun b h => hMo b h.1, by rw [hown]; exact hgl, hdom, fun id ow ho => ⟨.inr ((hlent _).2 ⟨id, ow, ho, rfl⟩), hMo _ (hsub _ _ ho)⟩, hinj, hkeep, ?_, by rw [hown]; exact hblk⟩;intro b hb hM;exact hM.2 ((hlent b).1 hb)
def sameIds (m m' : Mem) : Prop := m'.map (·.1) = m.map (·.1)
def goodM (m : Mem) : Bool := m.all fun q => q.2.live && q.2.ground
def liveM (m : Mem) : Bool := m.all fun q => q.2.live
theorem look_ids {m : Mem} {id : Nat} : (∃ b, lookO m id = some b) ↔ id ∈ m.map (·.1) := by
 induction m with
 | nil => simp [lookO]
 | cons q m ih =>
  obtain ⟨k, v⟩ := q;simp only [lookO, List.map_cons, List.mem_cons]
  rcases Bool.eq_false_or_eq_true (Nat.beq k id) with hk | hk
  ·rw [hk]; have := Nat.eq_of_beq_eq_true hk; simp [this]
  ·rw [hk]
   have : id ≠ k := fun e => by subst e; rw [Nat.beq_refl] at hk; cases hk
   simp only [cond_false, ih, this, false_or]
def RoundQ {α γ : Type} (m : γ → Mem) (I : List α → γ → Prop) (Px : Code → List α → Mem → Prop) (m0 : Mem) (pre : List α) : Exit → ASt → Prop
 | .normal, s => ∃ g, I pre g ∧ MemL s (m g)
 | .ret, s => ∃ mx, Px .ret pre mx ∧ sameIds m0 mx ∧ goodM mx = true ∧ MemL s mx
 | .exit id, s => ∃ mx, Px (.exit id) pre mx ∧ sameIds m0 mx ∧ goodM mx = true ∧ MemL s mx
 | _, _ => False
def Jm (ρ : Rho) (Mo : Nat → Prop) (lp D : Nat) (w : World) (st : Obj) (m : Mem) (W : World) : Prop :=
 BelowX (fun b => b = lp ∨ ∃ id ow, ρ id = some (some ow) ∧ ow.b = b) w W ∧ (∀ id blk, lookO m id = some blk → BRel W Mo ρ id blk) ∧ W.heap[lp]? = some st ∧ W.heap[D]? = some (.deferred (some []))
theorem Jm.grow {ρ : Rho} {Mo : Nat → Prop} {lp D : Nat} {w W W' : World} {st : Obj} {m : Mem} (hsub : ∀ id ow, ρ id = some (some ow) → ow.b < w.heap.size) (h : Jm ρ Mo lp D w st m W) (hg : Grow W W') : Jm ρ Mo lp D w st m W' := by
 obtain ⟨h1, h2, h3, h4⟩ := h;refine ⟨h1.trans (BelowX.of_grow hg), fun id blk hb => ?_, (hg.block lp (Array.getElem?_eq_some_iff.1 h3).1).trans h3, (hg.block D (Array.getElem?_eq_some_iff.1 h4).1).trans h4⟩;exact (h2 id blk hb).mono none (by simp) (noref_none _) (fun ow ho => hg.block _ (Nat.lt_of_lt_of_le (hsub id ow ho) h1.size)) hg.hh (fun _ _ h => h) (fun _ _ _ => rfl)
end
end Go.Sim
