/-
  What is proved: lemmas and contracts of functions on the way to the law topChockQueue (part 8).
-/
import Derived.Test.YtfmnmoiaemejjaaGreatVrA7
import Derived.Test.YtfmnmoiaemejjaaGreatVrA3
import Derived.Test.YtfmnmoiaemejjaaGreatVrA6
set_option linter.unusedSectionVars false
set_option linter.unusedSimpArgs false
set_option linter.unusedVariables false
set_option linter.unnecessarySimpa false
set_option linter.deprecated false
namespace Go.Sim
section
variable {α : Type} {E : Env} {l : Nat} {enc : α → Value} {xs : List α} {C : ItC E.P l enc xs} {Q : Exit → ASt → List α × Bool → Prop}
def Env.rin (E : Env) (lp : Nat) : Env := ⟨E.P, E.gl, E.orders, [], some lp, false, 0⟩
theorem Con.rin {f : FuncId} {args : List G} {r : G} {lp : Nat} (h : Con E f args r) : Con (E.rin lp) f args r := h
def q1g (p1 : List α) : Exit → ASt → List α × Bool → Prop
 | .normal, _, p => p = (p1, false)
 | .ret, _, p => p.2 = true
 | _, _, _ => False
theorem qdx {W : World} {M : Nat → Prop} {n : Nat} {t : Nat → TV} {tmps : Array Value} (hbw : E.bow = []) (hnb : E.nb ≤ W.heap.size) (hM : ∀ b, M b → b < W.heap.size) (hgl : GlOk E W M) (hs : tmps.size = n) (ht : ∀ i, TRel W M (fun _ => none) (t i) (tmps.getD i undef)) : ARel E W M ⟨n, t, []⟩ ⟨tmps, []⟩ W := by
 have how : qz M (fun _ => none) = M := by
  funext b
  exact propext ⟨(by rintro (h | ⟨_, _, h, _⟩); exact h; cases h), fun h => .inl h⟩
 refine ⟨fun _ => rfl, hs, fun _ => none, ⟨BelowX.refl _ W, hM, by rw [how]; exact hgl, (fun _ _ h => by cases h), (fun _ _ h => by cases h), (fun _ _ _ _ h => by cases h), (fun id x h => by rw [hbw] at h; cases h), ⟨(fun b h => absurd h (jy hbw)), hnb⟩, fun id blk hb => by cases hb⟩, Marks.nil, fun i => ?_⟩;rw [how];exact ht i
theorem qix {W1 W : World} {M : Nat → Prop} {n : Nat} {t : Nat → TV} {tmps : Array Value} (hbw : E.bow = []) (h : ARel E W1 M ⟨n, t, []⟩ ⟨tmps, []⟩ W) : Grow W1 W ∧ GlOk E W M ∧ tmps.size = n ∧ ∀ i, TRel W M (fun _ => none) (t i) (tmps.getD i undef) := by
 obtain ⟨ρ, hm, _, ht⟩ := h.ex
 have hρ : ρ = fun _ => none := by
  funext id
  cases hq : ρ id with
  | none => rfl
  | some x =>
   obtain ⟨blk, hb⟩ := hm.dom id x hq
   cases hb
 subst hρ
 have how : qz M (fun _ => none) = M := by
  funext b
  exact propext ⟨(by rintro (h | ⟨_, _, h, _⟩); exact h; cases h), fun h => .inl h⟩
 have hgl := hm.glob;rw [how] at ht hgl;exact ⟨hm.below.grow (fun _ => jy hbw), hgl, h.size, ht⟩
theorem qpq {β : Type} {gop : Operand} {p : Tmp} {assign body : Code} {n : Nat} {t : Nat → TV} {gf : FuncId} {caps : List G} {encb : β → Value} {ys : List β} (f : List β → List α) (gx : β → G) (t1 : β → Nat → TV)
  (hk : ze E.P gf) (hp : p < n) (hg : ASt.eval E ⟨n, t, []⟩ gop = .g (.fn (.func gf) [] caps)) (hseq : SeqN E gf caps encb ys) (hgx : ∀ y w M, (gx y).p w M (encb y))
  (hassign : ∀ y pre lp (C' : ItC E.P l enc xs), IWp (E.rin lp) C' assign (fun e s' p' => e = .normal ∧ s' = ⟨n, t1 y, []⟩ ∧ p' = pre) ⟨n, upd p (.g (gx y)) t, []⟩ pre)
  (hbody : ∀ q y post, ys = q ++ y :: post → ∀ lp (C' : ItC E.P l enc xs), IWp (E.rin lp) C' body (q1g (f (q ++ [y]))) ⟨n, t1 y, []⟩ (f q, false))
  (hdone : Q .normal ⟨n, t, []⟩ (f ys, false)) (hstop : ∀ pre, Q .ret ⟨n, t, []⟩ (pre, true)) (hbw : E.bow = [] := by rfl) (hmk : E.mks = false := by rfl) (hrn : E.rnd = none := by rfl) (hnb : E.nb = 0 := by rfl) :
  IWp E C (.rangeFunc gop #[p] assign body) Q ⟨n, t, []⟩ (f [], false) := by
 rintro a w ⟨N, W1, k1, k2, k3, k4, k5, k6⟩
 have hF : E.F = Fence.wide := by unfold Env.F; rw [hrn]; rfl
 obtain ⟨hgw, hglob, hsize, ht⟩ := qix hbw k5;have hMN : ∀ b, C.M b ∨ N b → b < w.heap.size := fun b hb => hb.elim (fun hb => Nat.lt_of_lt_of_le (C.hM b hb) (Nat.le_trans C.hlo (Nat.le_trans k3.size hgw.size))) (fun hb => Nat.lt_of_lt_of_le (k2 b hb).2 hgw.size)
 obtain ⟨fs, cs, hge, hfs, hcs⟩ : (G.fn (.func gf) [] caps).p w (fun b => C.M b ∨ N b) (a.eval gop) := by
  have h0 := qdx hbw (Nat.le_trans (Nat.le_of_eq hnb) (Nat.zero_le _)) hMN hglob hsize ht;obtain ⟨ρ, hm, hx⟩ := h0.rel;have := hx gop;rw [hg] at this;exact G.mono _ this (fun _ _ _ => rfl) (fun b _ h => .inl h)
 obtain rfl : fs = [] := by cases fs with
  | nil => rfl
  | cons => exact hfs.elim
 obtain ⟨fng, g1, g2, g3⟩ := hk;refine wpIn_rangeFunc ?_;intro fn _;obtain ⟨rec, hrec⟩ : ∃ rec : LoopState → Option Code → Loop, rec = fun st pe => { state := st, pending := pe, fn, tmps := a.tmps, params := #[p], assign, body, defers := w.heap.size } := ⟨_, rfl⟩;obtain ⟨w2, hw2⟩ : ∃ w2, (w.alloc (.deferred (some []))).alloc (.loop (rec .ready none)) = w2 := ⟨_, rfl⟩
 have hgr : Grow w w2 := by rw [← hw2]; exact (Grow.alloc w _).trans (Grow.alloc _ _)
 have hsz : w2.heap.size = w.heap.size + 2 := by rw [← hw2]; simp
 have hL : w2.heap[w.heap.size + 1]? = some (.loop (rec .ready none)) := by
  rw [← hw2]; have := World.alloc_heap_new (w.alloc (.deferred (some []))) (.loop (rec .ready none)); rwa [World.size_alloc] at this
 have hD : w2.heap[w.heap.size]? = some (.deferred (some [])) := by
  rw [← hw2]; exact (RowKit.Below.heap_alloc _ _ _ (by simp)).trans (World.alloc_heap_new w _)
 have hrun : (Instr.enterLoop fn a.tmps #[p] assign body E.F.round).run E.P w = .ok (w.heap.size + 1, [{ target := .collected w.heap.size, args := #[] }]) w2 := by
  rw [← hw2, hrec, hF]; exact run_enterLoop_outer _ _ _ _ _
 clear hw2;generalize hDD : w.heap.size = D at *;generalize hlpp : D + 1 = lp at *;have hCw : C.w.heap.size ≤ w.heap.size := Nat.le_trans k3.size hgw.size;have hCwl := C.hlo
 have hMw : ∀ b, C.M b → b < w.heap.size := fun b hb => by have := C.hM b hb; omega
 let L : Nat → Prop := fun b => C.M b ∨ b = lp
 have hML : ∀ b, C.M b → L b := fun b h => .inl h
 let N2 : Nat → Prop := fun b => N b ∨ b = D ∨ b = lp
 let Mi : Nat → Prop := fun b => C.M b ∨ N2 b
 have hLMi : ∀ b, L b → Mi b := by
  rintro b (h | h)
  ·exact .inl h
  ·exact .inr (.inr (.inr h))
 have hMi : ∀ b, Mi b → b < w2.heap.size := by
  rintro b (h | h | h | h)
  ·have := hMw b h; omega
  ·have := hMN b (.inr h); omega
  ·omega
  ·omega
 have hMiSub : ∀ b, b < w.heap.size → Mi b → C.M b ∨ N b := by
  rintro b hb (h | h | h | h)
  ·exact .inl h
  ·exact .inr h
  ·omega
  ·omega
 have hgl2 : GlOk E w2 Mi := fun g vs hgv => by
  obtain ⟨⟨g1, g2⟩, g3⟩ := hglob g vs hgv;exact ⟨⟨fun h => g1 (hMiSub g g2 h), by omega⟩, g3.mono hgr.hh hMiSub g1⟩
 have hJ2 : C.J N2 (f []) false w2 :=
  C.turn _ _ _ _ _ (C.take _ N2 _ _ _ (C.turn _ _ _ _ _ k1 (BelowX.of_grow hgw)) (fun b hb => by
   rcases hb with h | h | h
   ·exact .inl h
   ·exact .inr (by omega)
   ·exact .inr (by omega))) (BelowX.of_grow hgr)
 have hN2 : ∀ b, N2 b → C.lo ≤ b ∧ b < w2.heap.size := by
  rintro b (h | h | h)
  ·have h1 := k2 b h; have := hgw.size; exact ⟨h1.1, by omega⟩
  ·omega
  ·omega
 have hN2M : ∀ b, N2 b → ¬ C.M b := fun b h1 h2 => by have := C.hM b h2; have := (hN2 b h1).1; omega
 have hlpM : ¬ C.M lp := hN2M lp (.inr (.inr rfl));have hDM : ¬ C.M D := hN2M D (.inr (.inl rfl));have hB2 : BelowX C.M C.w w2 := (k3.trans (BelowX.of_grow hgw)).trans (BelowX.of_grow hgr)
 have hBC : ∀ W, BelowX L w2 W → BelowX C.M C.w W := fun W h => ⟨h.os.trans hB2.os, h.tape.trans hB2.tape, h.output.trans hB2.output, Nat.le_trans hB2.size h.size, fun k hk hl =>
  (h.block k (Nat.lt_of_lt_of_le hk hB2.size) (by rintro (h | h); exact hl h; omega)).trans (hB2.block k hk hl)⟩
 have hhw : ∀ W, BelowX L w2 W → ∀ b, b < w.heap.size → ¬ C.M b → W.heap[b]? = w.heap[b]? := fun W h b hb hno =>
  (h.block b (by omega) (by rintro (h | h); exact hno h; omega)).trans (hgr.block b hb)
 have hglW : ∀ W (X : Nat → Prop), BelowX L w2 W → (∀ b, b < w.heap.size → X b → N b) → GlOk E W (fun b => C.M b ∨ X b) := fun W X h hX g vs hgv => by
  obtain ⟨⟨g1, g2⟩, g3⟩ := hglob g vs hgv;have hs : ∀ b, b < w.heap.size → (C.M b ∨ X b) → C.M b ∨ N b := fun b hb hx => hx.imp id (hX b hb);exact ⟨⟨fun k => g1 (hs g g2 k), by have := h.size; omega⟩, g3.mono (fun b hb hno => hhw W h b hb fun k => hno (.inl k)) hs g1⟩
 have htW : ∀ W (X : Nat → Prop), BelowX L w2 W → (∀ b, b < w.heap.size → X b → N b) → ∀ i, TRel W (fun b => C.M b ∨ X b) (fun _ => none) (t i) (a.tmps.getD i undef) := fun W X h hX i =>
  (ht i).mono none (by cases ASt.get ⟨n, t, []⟩ i <;> rfl) (fun b hb hno => hhw W h b hb fun k => hno (.inl k)) (fun b hb hx => hx.imp id (hX b hb)) (fun _ _ _ => rfl)
 have hMlt : ∀ W (X : Nat → Prop), BelowX L w2 W → (∀ b, X b → b < W.heap.size) → ∀ b, C.M b ∨ X b → b < W.heap.size := fun W X h hX b hb => hb.elim (fun hb => by have := hMw b hb; have := h.size; omega) (hX b)
 have hN2s : ∀ b, b < w.heap.size → N2 b → N b := by
  rintro b hb (h | h | h)
  ·exact h
  ·omega
  ·omega
 -- behind the loop
 have back : ∀ W' st pe pre stp (Ni : Nat → Prop), C.J (fun b => N2 b ∨ Ni b) pre stp W' → BelowX L w2 W' → W'.heap[D]? = some (.deferred (some [])) →
   IRel E C ⟨n, t, []⟩ (pre, stp) { a with defers := { target := .collected D, args := #[] } :: a.defers } (W'.putObj lp (.loop { rec st pe with state := .exhausted })) := by
  intro W' st pe pre stp Ni hJ hB hd;have hB' : BelowX L w2 (W'.putObj lp (.loop { rec st pe with state := .exhausted })) := hB.trans (wc _ _ _ (.inr rfl))
  have hJ' : C.J N2 pre stp (W'.putObj lp (.loop { rec st pe with state := .exhausted })) :=
   C.turn _ _ _ _ _ (C.take _ N2 _ _ _ hJ (fun b h => .inl (.inl h))) (wc _ _ _ (.inr (.inr rfl)))
  refine ⟨N2, _, hJ', fun b hb => ⟨(hN2 b hb).1, Nat.lt_of_lt_of_le (hN2 b hb).2 hB'.size⟩, hBC _ hB', ?_, qdx hbw (Nat.le_trans (Nat.le_of_eq hnb) (Nat.zero_le _)) (hMlt _ N2 hB' (fun b hb => Nat.lt_of_lt_of_le (hN2 b hb).2 hB'.size)) (hglW _ N2 hB' hN2s) hsize (htW _ N2 hB' hN2s), fun b hb => .inl (k6 b hb)⟩;refine ⟨List.nodup_cons.2 ⟨fun hq => ?_, k4.1⟩, fun d hd' => ?_⟩
  ·obtain ⟨D', q1, q2, q3⟩ := k4.2 _ hq;simp only [Deferred.mk.injEq, Target.collected.injEq, and_true] at q1;have := (k2 D' q2).2; have := hgw.size; omega
  rcases List.mem_cons.1 hd' with rfl | hd'
  ·exact ⟨D, rfl, .inr (.inl rfl), (World.putObj_heap_other (by omega)).trans hd⟩
  ·obtain ⟨D', q1, q2, q3⟩ := k4.2 _ hd';have h1 := (k2 D' q2).2;have h2 := hgw.size;refine ⟨D', q1, .inl q2, (World.putObj_heap_other (by omega)).trans ((hhw _ hB D' (by omega) fun h => hN2M D' (.inl q2) h).trans ((hgw.block D' h1).trans q3))⟩
 refine ⟨lp, [{ target := .collected D, args := #[] }], w2, { target := .fn (.func gf) cs.toArray, args := #[.func (.yield lp) #[] #[]] }, w2, gf,
  #[.func (.yield lp) #[] #[]] ++ cs.toArray, w2, hrun, ?_, fun _ _ => trivial, ?_, qja, ?_⟩
 ·simp only [resolve, hge]
  simp [go_sem]
 ·simp [invoke, go_sem, jt g1 g2 g3]
 rw [hF]
 let Ji : (Nat → Prop) → List β → Bool → World → Prop := fun Ni q st W => (∃ pre, (st = false → pre = f q) ∧ C.J (fun b => N2 b ∨ Ni b) pre st W) ∧ BelowX L w2 W ∧
  W.heap[lp]? = some (.loop (rec (if st = true then .done else .ready) (if st = true then some .ret else none))) ∧ W.heap[D]? = some (.deferred (some [])) ∧ ∀ b, Ni b → w2.heap.size ≤ b
 refine (hseq w2 Mi cs lp Ji hMi hgl2 (hcs.mono hgr.hh hMiSub) ?_ ?_ ?_ ?_).mono ?_
 ·rintro Ni q st W W' ⟨⟨pre, hp, hJ⟩, j1, j3, j4, j5⟩ hB;refine ⟨⟨pre, hp, C.turn _ _ _ _ _ hJ (hB.mono fun b h => .inr h)⟩, ⟨hB.os.trans j1.os, hB.tape.trans j1.tape, hB.output.trans j1.output, Nat.le_trans j1.size hB.size, fun k hk hl => ?_⟩, ?_, ?_, j5⟩
  ·exact (hB.block k (Nat.lt_of_lt_of_le hk j1.size) (fun h => by have := j5 k h; omega)).trans (j1.block k hk hl)
  ·exact (hB.block lp (Array.getElem?_eq_some_iff.1 j3).1 (fun h => by have := j5 lp h; omega)).trans j3
  ·exact (hB.block D (Array.getElem?_eq_some_iff.1 j4).1 (fun h => by have := j5 D h; omega)).trans j4
 ·rintro Ni Ni' q st W ⟨⟨pre, hp, hJ⟩, j1, j3, j4, j5⟩ hN;refine ⟨⟨pre, hp, C.take _ _ _ _ _ hJ fun b hb => ?_⟩, j1, j3, j4, fun b hb => ?_⟩
  ·rcases hb with h | h
   ·exact .inl (.inl h)
   ·exact (hN b h).imp .inr id
  ·rcases hN b hb with h | h
   ·exact j5 b h
   ·exact Nat.le_trans j1.size h
 ·-- ONE ROUND
  rintro Ni q y post Wr hys _ hNi ⟨⟨pre, hpre, hJ⟩, j1, j3, j4, j5⟩;obtain rfl := hpre rfl;have hlpW1 : lp < Wr.heap.size := (Array.getElem?_eq_some_iff.1 j3).1;simp only [Bool.false_eq_true, if_false] at j3;have hy := run_yield (P := E.P) (args := #[encb y]) j3 (by rw [hrec]; rfl);refine ⟨_, _, _, _, hy, roundIn_of_wpIn trivial ?_⟩;clear hy
  have hfold : (((rec .ready none).params.zip #[encb y]).foldl (fun tmps (t, a) => tmps.setIfInBounds t a) (rec .ready none).tmps) = (a.put (some p) (encb y)).tmps := by rw [hrec]; simp [Act.put]
  have has : (rec .ready none).assign = assign := by rw [hrec]
  have hbo : (rec .ready none).body = body := by rw [hrec]
  rw [hfold, has, hbo]
  let NN : Nat → Prop := fun b => N2 b ∨ Ni b
  have hNN : ∀ b, NN b → C.lo ≤ b ∧ b < Wr.heap.size := by
   rintro b (h | h)
   ·exact ⟨(hN2 b h).1, Nat.lt_of_lt_of_le (hN2 b h).2 j1.size⟩
   ·exact ⟨by have := (hNi b h).1; omega, (hNi b h).2⟩
  have hNM : ∀ b, NN b → ¬ C.M b := fun b h1 h2 => by have := C.hM b h2; have := (hNN b h1).1; omega
  have hNNs : ∀ b, b < w.heap.size → NN b → N b := by
   rintro b hb (h | h)
   ·exact hN2s b hb h
   ·have := (hNi b h).1; omega
  have ha1 : IRel (E.rin lp) (C.at Wr (hBC Wr j1) NN) ⟨n, upd p (.g (gx y)) t, []⟩ (f q, false) { tmps := (a.put (some p) (encb y)).tmps, defers := [] } Wr := by
   refine ⟨NN, Wr, hJ, hNN, BelowX.refl _ _, ⟨.nil, fun _ h => by cases h⟩, qdx (E := E.rin lp) rfl (Nat.zero_le _) (hMlt Wr NN j1 fun b hb => (hNN b hb).2) (hglW Wr NN j1 hNNs) (by rw [qi9]; exact hsize) (fun i => ?_), fun b h => h⟩;rw [qi8 a (some p) (encb y) (fun d h => by cases h; rw [hsize]; exact hp), quj]
   by_cases hpi : p = i
   ·rw [if_pos hpi, if_pos (by rw [hpi])]; exact hgx y _ _
   ·rw [if_neg hpi, if_neg (fun h => hpi (by cases h; rfl))]; exact htW Wr NN j1 hNNs i
  refine wpIn_mono (hassign y (f q, false) lp (C.at Wr (hBC Wr j1) NN) _ Wr ha1) ?_;rintro e a1 Wa ⟨s', p', ⟨Na, Wa1, n1, n2, n3, n4, n5, n6⟩, rfl, rfl, rfl⟩;obtain ⟨hga, hgla, hsa, hta⟩ := qix (E := E.rin lp) rfl n5;have n3 : BelowX C.M Wr Wa1 := n3;have hBa : BelowX C.M Wr Wa := n3.trans (BelowX.of_grow hga);have e3 : Wa.heap[lp]? = some (.loop (rec .ready none)) := (hBa.block lp hlpW1 hlpM).trans j3;have e4 : Wa.heap[D]? = some (.deferred (some [])) := (hBa.block D (by omega) hDM).trans j4;refine ⟨_, run_beginRound e3 (by rw [hrec]), ?_⟩;have hlpWa : lp < Wa.heap.size := Nat.lt_of_lt_of_le hlpW1 hBa.size;generalize hWb : Wa.putObj lp (.loop { rec .ready none with state := .busy }) = Wb
  have hput : BelowX L Wa Wb := by rw [← hWb]; exact wc _ _ _ (.inr rfl)
  have hb3 : Wb.heap[lp]? = some (.loop { rec .ready none with state := .busy }) := by rw [← hWb]; exact World.putObj_heap_same hlpWa
  have hb4 : Wb.heap[D]? = some (.deferred (some [])) := by rw [← hWb]; exact (World.putObj_heap_other (by omega)).trans e4
  have hbo : ∀ b, b ≠ lp → Wb.heap[b]? = Wa.heap[b]? := fun b h => by rw [← hWb]; exact World.putObj_heap_other h
  have hbs : Wb.heap.size = Wa.heap.size := by rw [← hWb]; exact qa9 _ _ _
  have hBr : BelowX L Wr Wb := (hBa.mono hML).trans hput;have hBb : BelowX L w2 Wb := j1.trans hBr;have hlpNa : Na lp := n6 lp (.inl (.inr (.inr rfl)));have hJb : C.J Na (f q) false Wb := C.turn _ _ _ _ _ (C.turn _ _ _ _ _ n1 (BelowX.of_grow hga)) (by rw [← hWb]; exact wc _ _ _ hlpNa);have hNa : ∀ b, Na b → C.lo ≤ b ∧ b < Wb.heap.size := fun b hb => ⟨(n2 b hb).1, by rw [hbs]; exact Nat.lt_of_lt_of_le (n2 b hb).2 hga.size⟩
  have ha2 : IRel (E.rin lp) (C.at Wb (hBC Wb hBb) NN) ⟨n, t1 y, []⟩ (f q, false) a1 Wb := by
   refine ⟨Na, Wb, hJb, hNa, BelowX.refl _ _, ⟨n4.1, fun d hd => ?_⟩, qdx (E := E.rin lp) rfl (Nat.zero_le _) (hMlt Wb Na hBb fun b hb => (hNa b hb).2) ?_ hsa (fun i => ?_), n6⟩
   ·obtain ⟨D', q1, q2, q3⟩ := n4.2 d hd;have h1 := (n2 D' q2).2;have h3 : Wa.heap[D']? = some (.deferred (some [])) := (hga.block D' h1).trans q3;refine ⟨D', q1, q2, (hbo D' fun h => ?_).trans h3⟩;rw [h, e3] at h3; cases h3
   ·exact GlOk.grow (E := E) hgla (by rw [hbs]; exact Nat.le_refl _) fun b _ hno => hbo b fun h => hno (.inr (by rw [h]; exact hlpNa))
   ·exact (hta i).mono none (by cases ASt.get ⟨n, t1 y, []⟩ i <;> rfl) (fun b _ hno => hbo b fun h => hno (.inr (by rw [h]; exact hlpNa))) (fun _ _ h => h) (fun _ _ _ => rfl)
  refine wpIn_mono (hbody q y post hys lp (C.at Wb (hBC Wb hBb) NN) a1 Wb ha2) ?_;rintro e2 a2 W3 ⟨s3, p3, ⟨N3, W4, m1, m2, m3, m4, m5, m6⟩, hq⟩;have m3 : BelowX C.M Wb W4 := m3;obtain ⟨ρ3, hm3, _, _⟩ := m5.ex;have hB3 : BelowX C.M Wb W3 := m3.trans (BelowX.of_grow (hm3.below.grow (fun _ => jy rfl)));have f3 : W3.heap[lp]? = some (.loop { rec .ready none with state := .busy }) := (hB3.block lp (by omega) hlpM).trans hb3;have f4 : W3.heap[D]? = some (.deferred (some [])) := (hB3.block D (by omega) hDM).trans hb4;have b13 : BelowX L Wr W3 := hBr.trans (hB3.mono hML);have hJ3 : C.J N3 p3.1 p3.2 W3 := C.turn _ _ _ _ _ m1 (BelowX.of_grow (hm3.below.grow (fun _ => jy rfl)));have fin : ∀ (jump : Option Code) (b : Bool), b = !jump.isNone → (jump = none ∨ jump = some .ret) → p3.2 = b → (b = false → p3.1 = f (q ++ [y])) →
    ∃ v W5, (Instr.endRound lp jump).run E.P W3 = .ok v W5 ∧ BelowX Mi Wr W5 ∧ ∃ b, (Ending.returned v) = .returned (.bool b) ∧ Ji Ni (q ++ [y]) (!b) W5 := by
   intro jump b hb hjump hp3 hp31;have hr := run_endRound (P := E.P) jump f3
   have hrr : ({ ({ rec .ready none with state := .busy } : Loop) with state := if jump.isNone then .ready else .done, pending := jump } : Loop) = rec (if jump.isNone then .ready else .done) jump := by rw [hrec]
   rw [hrr] at hr;have b14 : BelowX L Wr (W3.putObj lp (.loop (rec (if jump.isNone then .ready else .done) jump))) := b13.trans (wc _ _ _ (.inr rfl));refine ⟨_, _, hr, b14.mono hLMi, jump.isNone, rfl, ⟨p3.1, fun h => hp31 (by rw [hb]; exact h), ?_⟩, j1.trans b14, ?_, (World.putObj_heap_other (by omega)).trans f4, j5⟩
   ·have := C.turn _ _ _ _ _ hJ3 (wc (L := N3) W3 lp (.loop (rec (if jump.isNone then .ready else .done) jump)) (m6 lp (.inl (.inr (.inr rfl)))));rw [hp3, hb] at this;exact C.take _ _ _ _ _ this fun b hb => .inl (m6 b hb)
   ·rcases hjump with rfl | rfl
    ·exact World.putObj_heap_same (Array.getElem?_eq_some_iff.1 f3).1
    ·exact World.putObj_heap_same (Array.getElem?_eq_some_iff.1 f3).1
  cases e2 with
  | normal =>
   have hq : p3 = (f (q ++ [y]), false) := hq;obtain ⟨v, W5, g1, g2, b, g3, g4⟩ := fin none false rfl (.inl rfl) (by rw [hq]) (fun _ => by rw [hq]);exact ⟨v, W5, g1, g2, b, g3, g4⟩
  | ret =>
   have hq : p3.2 = true := hq;obtain ⟨v, W5, g1, g2, b, g3, g4⟩ := fin (some .ret) true rfl (.inr rfl) hq (fun h => by cases h);exact ⟨v, W5, g1, g2, b, g3, g4⟩
  | _ => exact hq.elim
 ·-- AT THE START
  exact ⟨⟨f [], fun _ => rfl, C.take _ _ _ _ _ hJ2 (fun b hb => hb.elim .inl (fun h => h.elim))⟩, BelowX.refl _ w2, hL, hD, fun _ h => h.elim⟩
 ·-- BEHIND THE ITERATOR
  rintro e W' ⟨⟨v, rfl⟩, ⟨⟨pre, hpre, hJ⟩, j1, j3, j4, j5⟩ | ⟨q, ⟨pre, hpre, hJ⟩, j1, j3, j4, j5⟩⟩
  ·obtain rfl := hpre rfl;simp only [Bool.false_eq_true, if_false] at j3;refine ⟨none, _, ?_, _, _, back _ .ready none _ _ _ hJ j1 j4, hdone⟩;have := run_endLoop (P := E.P) j3 (by rw [hrec]; simp);rw [this, hrec]
  ·simp only [if_true] at j3;have hl := run_endLoop (P := E.P) j3 (by rw [hrec]; simp);refine ⟨some .ret, _, ?_, wpIn_ret ⟨_, _, back _ .done (some .ret) _ _ _ hJ j1 j4, hstop pre⟩⟩;rw [hl];subst hrec
   rfl
theorem qk2 {β : Type} {gop : Operand} {p : Tmp} {assign body : Code} {n : Nat} {gf : FuncId} {caps : List G} {encb : β → Value} {s : ASt} {p0 : List α × Bool} (ys : List β) (l1 : List (Nat × TV)) (f : List β → List α) (gx : β → G) (t1 : (Nat → TV) → β → Nat → TV)
  (hn : s.n = n) (hwk : qj0 s l1) (hcl : wk l1 [] = true) (hp0 : p0 = (f [], false)) (hk : ze E.P gf) (hp : Nat.blt p n = true) (hg : ASt.eval E ⟨n, xx l1, []⟩ gop = .g (.fn (.func gf) [] caps)) (hseq : SeqN E gf caps encb ys) (hgx : ∀ y w M, (gx y).p w M (encb y))
  (hassign : ∀ y pre lp (C' : ItC E.P l enc xs), IWp (E.rin lp) C' assign (fun e s' p' => e = .normal ∧ s' = ⟨n, t1 (xx l1) y, []⟩ ∧ p' = pre) ⟨n, upd p (.g (gx y)) (xx l1), []⟩ pre)
  (hbody : ∀ q y post, ys = q ++ y :: post → ∀ lp (C' : ItC E.P l enc xs), IWp (E.rin lp) C' body (q1g (f (q ++ [y]))) ⟨n, t1 (xx l1) y, []⟩ (f q, false))
  (hdone : Q .normal ⟨n, xx l1, []⟩ (f ys, false)) (hstop : ∀ pre, Q .ret ⟨n, xx l1, []⟩ (pre, true)) (hbw : E.bow = [] := by rfl) (hmk : E.mks = false := by rfl) (hrn : E.rnd = none := by rfl) (hnb : E.nb = 0 := by rfl) :
  IWp E C (.rangeFunc gop #[p] assign body) Q s p0 := by
 refine q25 (l1 := l1) (m := []) hwk trivial hcl ?_ hbw;subst hn;subst hp0;exact qpq f gx (t1 (xx l1)) hk (Nat.le_of_ble_eq_true hp) hg hseq hgx hassign hbody hdone hstop hbw hmk hrn hnb
end
section
variable {E : Env} {w0 : World} {M0 : Nat → Prop}
def JmN (ρ : Rho) (Mo N : Nat → Prop) (lp D : Nat) (w : World) (st : Obj) (m : Mem) (W : World) : Prop :=
 BelowX (fun b => b = lp ∨ ∃ id ow, ρ id = some (some ow) ∧ ow.b = b) w W ∧ (∀ id blk, qr m id = some blk → BRel W (fun b => Mo b ∨ N b) ρ id blk) ∧ W.heap[lp]? = some st ∧ W.heap[D]? = some (.deferred (some [])) ∧ ∀ b, N b → w.heap.size ≤ b
theorem JmN.turn {ρ : Rho} {Mo N : Nat → Prop} {lp D : Nat} {w W W' : World} {st : Obj} {m : Mem} (hsub : ∀ id ow, ρ id = some (some ow) → ow.b < w.heap.size) (hlp : lp < w.heap.size ∧ D < w.heap.size) (h : JmN ρ Mo N lp D w st m W) (hB : BelowX N W W') : JmN ρ Mo N lp D w st m W' := by
 obtain ⟨h1, h2, h3, h4, h5⟩ := h;refine ⟨⟨hB.os.trans h1.os, hB.tape.trans h1.tape, hB.output.trans h1.output, Nat.le_trans h1.size hB.size, fun k hk hl => ?_⟩, fun id blk hb => ?_, ?_, ?_, h5⟩
 ·exact (hB.block k (Nat.lt_of_lt_of_le hk h1.size) (fun h => by have := h5 k h; omega)).trans (h1.block k hk hl)
 ·exact (h2 id blk hb).mono none (by simp) (z5 _) (fun ow ho => hB.block _ (Nat.lt_of_lt_of_le (hsub id ow ho) h1.size) fun h => by have := h5 _ h; have := hsub id ow ho; omega) (fun b hb hno => hB.block b hb fun h => hno (.inr h)) (fun _ _ h => h) (fun _ _ _ => rfl)
 ·exact (hB.block lp (Array.getElem?_eq_some_iff.1 h3).1 (fun h => by have := h5 _ h; omega)).trans h3
 ·exact (hB.block D (Array.getElem?_eq_some_iff.1 h4).1 (fun h => by have := h5 _ h; omega)).trans h4
theorem JmN.take {ρ : Rho} {Mo N N' : Nat → Prop} {lp D : Nat} {w W : World} {st : Obj} {m : Mem} (hN : ∀ b, N' b → N b ∨ W.heap.size ≤ b) (h : JmN ρ Mo N lp D w st m W) : JmN ρ Mo N' lp D w st m W := by
 obtain ⟨h1, h2, h3, h4, h5⟩ := h;refine ⟨h1, fun id blk hb => ?_, h3, h4, fun b hb => ?_⟩
 ·exact (h2 id blk hb).mono none (by simp) (z5 _) (fun _ _ => rfl) (fun _ _ _ => rfl) (fun b hb h => h.imp (fun h => h) fun h => (hN b h).resolve_right (by omega)) (fun _ _ _ => rfl)
 ·rcases hN b hb with h | h
  ·exact h5 b h
  ·exact Nat.le_trans h1.size h
theorem qnx {α γ : Type} {gop : Operand} {p : Tmp} {assign body : Code} {Q : Exit → ASt → Prop} {n : Nat} {t : Nat → TV} {gf : FuncId} {caps : List G} {enc : α → Value} {xs : List α}
  (m : γ → Mem) (I : List α → γ → Prop) (g0 : γ) (S1 : γ → α → ASt) (Px : Code → List α → Mem → Prop)
  (hmk : E.mks = true) (hrn : E.rnd = none) (hk : ze E.P gf) (hp : p < n)
  (hg : ASt.eval E ⟨n, t, m g0⟩ gop = .g (.fn (.func gf) [] caps)) (hseq : SeqN E gf caps enc xs) (gx : α → G) (hgx : ∀ x w M, (gx x).p w M (enc x))
  (hg0 : I [] g0) (hids : ∀ g, qc6 (m g0) (m g)) (hgood : ∀ g, qqq (m g) = true)
  (hassign : ∀ pre x post g, xs = pre ++ x :: post → I pre g → ∀ lp w1 M1 x1, AWp (E.turn lp (m g) x1) w1 M1 assign (fun e s' => e = .normal ∧ s' = S1 g x) ⟨n, upd p (.g (gx x)) t, m g⟩)
  (hlive1 : ∀ g x, q5g (S1 g x).mem = true)
  (hbody : ∀ pre x post g, xs = pre ++ x :: post → I pre g → ∀ lp w1 M1 x1, AWp (E.turn lp (S1 g x).mem x1) w1 M1 body (q5h m I Px (m g0) (pre ++ [x])) (S1 g x))
  (hdone : ∀ g, I xs g → Q .normal ⟨n, t, m g⟩)
  (hstop : ∀ c pre mx, Px c pre mx → AWp E w0 M0 c Q ⟨n, t, mx⟩) : AWp E w0 M0 (.rangeFunc gop #[p] assign body) Q ⟨n, t, m g0⟩ := by
 intro a w ha;obtain ⟨ρ, hm, hmks, ht⟩ := ha.ex
 have hF : E.F = Fence.wide := by unfold Env.F; rw [hrn]; rfl
 obtain ⟨fs, cs, hge, hfs, hcs⟩ : (G.fn (.func gf) [] caps).p w (qz M0 ρ) (a.eval gop) := by
  have := qi7 hm ht gop;rw [hg] at this;exact this
 obtain rfl : fs = [] := by cases fs with
  | nil => rfl
  | cons => exact hfs.elim
 obtain ⟨fng, k1, k2, k3⟩ := hk;refine wpIn_rangeFunc ?_;intro fn _;obtain ⟨rec, hrec⟩ : ∃ rec : LoopState → Option Code → Loop, rec = fun st pe => { state := st, pending := pe, fn, tmps := a.tmps, params := #[p], assign, body, defers := w.heap.size } := ⟨_, rfl⟩;obtain ⟨w2, hw2⟩ : ∃ w2, (w.alloc (.deferred (some []))).alloc (.loop (rec .ready none)) = w2 := ⟨_, rfl⟩
 have hgr : Grow w w2 := by rw [← hw2]; exact (Grow.alloc w _).trans (Grow.alloc _ _)
 have hsz : w2.heap.size = w.heap.size + 2 := by rw [← hw2]; simp
 have hL : w2.heap[w.heap.size + 1]? = some (.loop (rec .ready none)) := by
  rw [← hw2]; have := World.alloc_heap_new (w.alloc (.deferred (some []))) (.loop (rec .ready none)); rwa [World.size_alloc] at this
 have hD : w2.heap[w.heap.size]? = some (.deferred (some [])) := by
  rw [← hw2]; exact (RowKit.Below.heap_alloc _ _ _ (by simp)).trans (World.alloc_heap_new w _)
 have hρlt : ∀ id ow, ρ id = some (some ow) → ow.b < w.heap.size := fun id ow h => (hm.fresh id ow h).2
 have hrun : (Instr.enterLoop fn a.tmps #[p] assign body E.F.round).run E.P w = .ok (w.heap.size + 1, [{ target := .collected w.heap.size, args := #[] }]) w2 := by
  rw [← hw2, hrec, hF]; exact run_enterLoop_outer _ _ _ _ _
 clear hw2;generalize hDD : w.heap.size = D at *;generalize hlpp : D + 1 = lp at *
 let Mo : Nat → Prop := fun b => qz M0 ρ b ∨ b = D ∨ b = lp
 let L : Nat → Prop := fun b => b = lp ∨ ∃ id ow, ρ id = some (some ow) ∧ ow.b = b
 have hLMo : ∀ b, L b → Mo b := by
  rintro b (h | ⟨id, ow, h, rfl⟩)
  ·exact .inr (.inr h)
  ·exact .inl (.inr ⟨id, ow, h, rfl⟩)
 have hsubMo : ∀ id ow, ρ id = some (some ow) → Mo ow.b := fun id ow h => .inl (.inr ⟨id, ow, h, rfl⟩)
 have hMow : ∀ b, Mo b → b < w2.heap.size := by
  rintro b (h | h | h)
  ·have := hm.lt b h; omega
  ·omega
  ·omega
 have hMoSub : ∀ b, b < w.heap.size → Mo b → qz M0 ρ b := by
  rintro b hb (h | h | h)
  ·exact h
  ·omega
  ·omega
 have hgl2 : GlOk E w2 Mo := fun g vs hgv => by
  obtain ⟨⟨g1, g2⟩, g3⟩ := hm.glob g vs hgv;refine ⟨⟨?_, by omega⟩, g3.mono hgr.hh hMoSub g1⟩;rintro (h | h | h)
  ·exact g1 h
  ·omega
  ·omega
 have hdom : ∀ gg id y, ρ id = some y → ∃ blk, qr (m gg) id = some blk := fun gg id y h => by
  rw [qey, hids gg, ← qey]; exact hm.dom id y h
 let x0 : Nat → Option Own := fun id => (ρ id).getD none
 have hx00 : ∀ id blk, qr (m g0) id = some blk → ρ id = some (x0 id) := fun id blk h => by
  have h1 := List.all_eq_true.1 (hgood g0) _ (jn _ h);simp only [Bool.and_eq_true] at h1;obtain ⟨y, hy⟩ := (hm.blk id blk h).has h1.1;simp only [x0, hy, Option.getD_some]
 have hx0 : ∀ mx, qc6 (m g0) mx → ∀ id blk, qr mx id = some blk → ρ id = some (x0 id) := fun mx hs id blk h => by
  obtain ⟨b0, hb0⟩ : ∃ b0, qr (m g0) id = some b0 := by rw [qey, ← hs, ← qey]; exact ⟨_, h⟩
  exact hx00 id b0 hb0
 have hhW : ∀ W, BelowX L w2 W → ∀ b, b < w2.heap.size → ¬ Mo b → W.heap[b]? = w2.heap[b]? := fun W h b hb hno => h.block b hb fun hl => hno (hLMo b hl)
 have htW : ∀ W, BelowX L w2 W → ∀ i, TRel W Mo ρ (t i) (a.tmps.getD i undef) := fun W h i =>
  ((ht i).mono none (by cases ASt.get ⟨n, t, m g0⟩ i <;> rfl) hgr.hh hMoSub (fun _ _ _ => rfl)).mono none (by cases ASt.get ⟨n, t, m g0⟩ i <;> rfl) (hhW W h) (fun _ _ h => h) (fun _ _ _ => rfl)
 have hglN : ∀ W (N : Nat → Prop), BelowX L w2 W → (∀ b, N b → w2.heap.size ≤ b) → GlOk E W (fun b => Mo b ∨ N b) := fun W N h hN g vs hgv => by
  obtain ⟨⟨g1, g2⟩, g3⟩ := hgl2 g vs hgv
  have hs : ∀ b, b < w2.heap.size → (Mo b ∨ N b) → Mo b := fun b hb hx => hx.resolve_right fun k => by have := hN b k; omega
  exact ⟨⟨fun k => g1 (hs g g2 k), by have := h.size; omega⟩, g3.mono (fun b hb hno => hhW W h b hb hno) hs g1⟩
 have htWN : ∀ W (N : Nat → Prop), BelowX L w2 W → (∀ b, N b → w2.heap.size ≤ b) → ∀ i, TRel W (fun b => Mo b ∨ N b) ρ (t i) (a.tmps.getD i undef) := fun W N h hN i =>
  (((ht i).mono none (by cases ASt.get ⟨n, t, m g0⟩ i <;> rfl) hgr.hh hMoSub (fun _ _ _ => rfl) : TRel w2 Mo ρ (t i) (a.tmps.getD i undef))).mono none (by cases ASt.get ⟨n, t, m g0⟩ i <;> rfl) (hhW W h) (fun b hb hx => hx.resolve_right fun k => by have := hN b k; omega) (fun _ _ _ => rfl)
 -- behind the loop
 have back : ∀ mx W' st pe N, qc6 (m g0) mx → JmN ρ Mo N lp D w2 (.loop (rec st pe)) mx W' →
   ARel E w0 M0 ⟨n, t, mx⟩ { a with defers := { target := .collected D, args := #[] } :: a.defers } (W'.putObj lp (.loop { rec st pe with state := .exhausted })) := by
  rintro mx W' st pe N hs ⟨j1, j2, j3, j4, j5⟩;have hfull : BelowX L w2 (W'.putObj lp (.loop { rec st pe with state := .exhausted })) := j1.trans (wc _ _ _ (.inl rfl))
  have hhw : ∀ b, b < w.heap.size → ¬ qz M0 ρ b → (W'.putObj lp (.loop { rec st pe with state := .exhausted })).heap[b]? = w.heap[b]? := fun b hb hno =>
   (hhW _ hfull b (by omega) fun h => hno (hMoSub b hb h)).trans (hgr.block b hb)
  have hsize : w.heap.size ≤ (W'.putObj lp (.loop { rec st pe with state := .exhausted })).heap.size := by have := hfull.size; omega
  refine ⟨(fun h => by rw [hmk] at h; cases h), ha.size, ρ, ⟨?_, hm.m0, ?_, ?_, ?_, hm.inj, hm.keep, hm.lentM, ?_⟩, ?_, fun i => ?_⟩
  ·refine ⟨hfull.os.trans (hgr.os.trans hm.below.os), hfull.tape.trans (hgr.tape.trans hm.below.tape), hfull.output.trans (hgr.output.trans hm.below.output), Nat.le_trans hm.below.size hsize, fun k hk' hl => ?_⟩;have hkw := Nat.lt_of_lt_of_le hk' hm.below.size;refine (hfull.block k (by omega) ?_).trans ((hgr.block k hkw).trans (hm.below.block k hk' hl));rintro (h | ⟨id, ow, h, rfl⟩)
   ·omega
   ·rcases (hm.fresh id ow h).1 with g | g
    ·omega
    ·exact hl g
  ·exact hm.glob.grow hsize hhw
  ·intro id y h;rw [qey, hs, ← qey]; exact hm.dom id y h
  ·exact fun id ow h => ⟨(hm.fresh id ow h).1, Nat.lt_of_lt_of_le (hm.fresh id ow h).2 hsize⟩
  ·intro id blk hb;refine (j2 id blk hb).mono none (by simp) (z5 _) (fun ow ho => World.putObj_heap_other ?_) (fun b _ hno => World.putObj_heap_other ?_) (fun b _ h => .inl (.inl h)) (fun _ _ _ => rfl)
   ·have := hρlt id ow ho; omega
   ·intro e; exact hno (.inl (.inr (.inr e)))
  ·refine ⟨List.nodup_cons.2 ⟨fun hd => ?_, hmks.1⟩, fun d hd => ?_⟩
   ·obtain ⟨D', q1, q2, q3⟩ := hmks.2 _ hd;have hq := (Array.getElem?_eq_some_iff.1 q3.2).1;simp only [Deferred.mk.injEq, Target.collected.injEq, and_true] at q1
    omega
   rcases List.mem_cons.1 hd with rfl | hd
   ·refine ⟨D, rfl, by have := hm.below.size; omega, ?_, (World.putObj_heap_other (by omega)).trans j4⟩;rintro (h | ⟨id, ow, h, e⟩)
    ·have := hm.m0 D h; have := hm.below.size; omega
    ·have := hρlt id ow h; omega
   ·obtain ⟨D', q1, q2, q3⟩ := hmks.2 d hd;exact ⟨D', q1, q2, (G.mark D').mono q3 hhw (fun _ _ h => h)⟩
  ·exact (ht i).mono none (by cases ASt.get ⟨n, t, m g0⟩ i <;> rfl) hhw (fun _ _ h => h) (fun _ _ _ => rfl)
 refine ⟨lp, [{ target := .collected D, args := #[] }], w2, { target := .fn (.func gf) cs.toArray, args := #[.func (.yield lp) #[] #[]] }, w2, gf,
  #[.func (.yield lp) #[] #[]] ++ cs.toArray, w2, hrun, ?_, fun _ _ => trivial, ?_, qja, ?_⟩
 ·simp only [resolve, hge]
  simp [go_sem]
 ·simp [invoke, go_sem, jt k1 k2 k3]
 rw [hF]
 refine (hseq w2 Mo cs lp (fun N pre st W => (st = false → ∃ gg, I pre gg ∧ JmN ρ Mo N lp D w2 (.loop (rec .ready none)) (m gg) W) ∧
  (st = true → ∃ c mx, Px c pre mx ∧ qc6 (m g0) mx ∧ JmN ρ Mo N lp D w2 (.loop (rec .done (some c))) mx W)) hMow hgl2 (hcs.mono hgr.hh hMoSub) ?_ ?_ ?_ ?_).mono ?_
 ·rintro N pre st W W' ⟨h1, h2⟩ hB;exact ⟨fun h => by obtain ⟨gg, hI, hj⟩ := h1 h; exact ⟨gg, hI, hj.turn (fun id ow ho => by have := hρlt id ow ho; omega) ⟨by omega, by omega⟩ hB⟩, fun h => by obtain ⟨c, mx, q1, q2, hj⟩ := h2 h; exact ⟨c, mx, q1, q2, hj.turn (fun id ow ho => by have := hρlt id ow ho; omega) ⟨by omega, by omega⟩ hB⟩⟩
 ·rintro N N' pre st W ⟨h1, h2⟩ hN;exact ⟨fun h => by obtain ⟨gg, hI, hj⟩ := h1 h; exact ⟨gg, hI, hj.take hN⟩, fun h => by obtain ⟨c, mx, q1, q2, hj⟩ := h2 h; exact ⟨c, mx, q1, q2, hj.take hN⟩⟩
 ·-- ONE ROUND
  rintro N pre x post W1 hxs _ hN ⟨hst, _⟩;obtain ⟨gg, hI, j1, j2, j3, j4, j5⟩ := hst rfl;have hlpW1 : lp < W1.heap.size := (Array.getElem?_eq_some_iff.1 j3).1;have hy := run_yield (P := E.P) (args := #[enc x]) j3 (by rw [hrec]; rfl);refine ⟨_, _, _, _, hy, roundIn_of_wpIn trivial ?_⟩;clear hy
  have hfold : (((rec .ready none).params.zip #[enc x]).foldl (fun tmps (t, a) => tmps.setIfInBounds t a) (rec .ready none).tmps) = (a.put (some p) (enc x)).tmps := by rw [hrec]; simp [Act.put]
  have has : (rec .ready none).assign = assign := by rw [hrec]
  have hbo : (rec .ready none).body = body := by rw [hrec]
  rw [hfold, has, hbo]
  have hnbW : E.nb ≤ W1.heap.size := by have h1 := hm.lentM.2; have h2 := hm.below.size; have h3 := hgr.size; have h4 := j1.size; omega
  obtain ⟨o1, l1, mr1⟩ := qo7 (E := E) (x := x0) lp (mem := m gg) (W := W1) (Mo := fun b => Mo b ∨ N b) (fun b h => h.elim (fun h => Nat.lt_of_lt_of_le (hMow b h) j1.size) (fun h => (hN b h).2)) (hglN W1 N j1 j5) (hdom gg) (hx0 _ (hids gg)) (fun id ow h => .inl (hsubMo id ow h)) hm.inj j2 hnbW;generalize hM1 : (fun b => (Mo b ∨ N b) ∧ ¬ ∃ id ow, ρ id = some (some ow) ∧ ow.b = b) = M1 at *
  have ha1 : ARel (E.turn lp (m gg) x0) W1 M1 ⟨n, upd p (.g (gx x)) t, m gg⟩ { tmps := (a.put (some p) (enc x)).tmps, defers := [] } W1 := by
   refine ⟨fun _ => rfl, by rw [qi9]; exact ha.size, ρ, mr1, Marks.nil, fun i => ?_⟩;rw [o1];show TRel W1 (fun b => Mo b ∨ N b) ρ (upd p (.g (gx x)) t i) ((a.put (some p) (enc x)).tmps.getD i undef);rw [qi8 a (some p) (enc x) (fun d h => by cases h; rw [ha.size]; exact hp), quj]
   by_cases hpi : p = i
   ·rw [if_pos hpi, if_pos (by rw [hpi])]; exact hgx x _ _
   ·rw [if_neg hpi, if_neg (fun h => hpi (by cases h; rfl))]; exact htWN W1 N j1 j5 i
  refine wpIn_mono (hassign pre x post gg hxs hI lp W1 M1 x0 _ W1 ha1) ?_;rintro e a1 W2 ⟨s', ha2, rfl, rfl⟩;obtain ⟨ρ2, hm2, _, ht2⟩ := ha2.ex
  have hnl : ¬ (E.turn lp (m gg) x0).lent lp := fun h => by obtain ⟨id, ow, h1, h2⟩ := (l1 _).1 h; have := hρlt id ow h1; omega
  have hnD : ¬ (E.turn lp (m gg) x0).lent D := fun h => by obtain ⟨id, ow, h1, h2⟩ := (l1 _).1 h; have := hρlt id ow h1; omega
  have e3 : W2.heap[lp]? = some (.loop (rec .ready none)) := (hm2.below.block lp hlpW1 hnl).trans j3;have e4 : W2.heap[D]? = some (.deferred (some [])) := (hm2.below.block D (by omega) hnD).trans j4;refine ⟨_, run_beginRound e3 (by rw [hrec]), ?_⟩;have hlpW2 : lp < W2.heap.size := Nat.lt_of_lt_of_le hlpW1 hm2.below.size;have hρ2 : ∀ id y, ρ id = some y → ρ2 id = some y := fun id y h => hm2.keep id y ((wb x0).2 ⟨hdom gg id y h, by simp only [x0, h, Option.getD_some]⟩)
  have hne2 : ∀ id ow, ρ2 id = some (some ow) → ow.b ≠ lp := fun id ow h e => by
   rcases (hm2.fresh id ow h).1 with g | g
   ·omega
   ·exact hnl (e ▸ g)
  have hne2D : ∀ id ow, ρ2 id = some (some ow) → ow.b ≠ D := fun id ow h e => by
   rcases (hm2.fresh id ow h).1 with g | g
   ·omega
   ·exact hnD (e ▸ g)
  have hMM : ∀ b, (Mo b ∨ N b) → qz M1 ρ2 b := fun b h => by
   have h : (fun b => Mo b ∨ N b) b := h;rw [← o1] at h
   rcases h with h | ⟨id, ow, ho, rfl⟩
   ·exact .inl h
   ·exact .inr ⟨id, ow, hρ2 id _ ho, rfl⟩
  have hh2 : ∀ b, b < W2.heap.size → ¬ qz M1 ρ2 b → (W2.putObj lp (.loop { rec .ready none with state := .busy })).heap[b]? = W2.heap[b]? := fun b _ hno =>
   World.putObj_heap_other fun e => hno (by rw [e]; exact hMM lp (.inl (.inr (.inr rfl))))
  have hx2 : ∀ id blk, qr (S1 gg x).mem id = some blk → ρ2 id = some ((ρ2 id).getD none) := fun id blk h => by
   obtain ⟨y, hy⟩ := (hm2.blk id blk h).has (List.all_eq_true.1 (hlive1 gg x) _ (jn _ h));rw [hy]; rfl
  obtain ⟨o2, l2, mr2⟩ := qo7 (E := E) (x := fun id => (ρ2 id).getD none) lp (mem := (S1 gg x).mem) (W := W2.putObj lp (.loop { rec .ready none with state := .busy })) (Mo := qz M1 ρ2) (fun b h => by rw [qa9]; exact hm2.lt b h)
   (GlOk.grow (E := E) hm2.glob (by rw [qa9]; exact Nat.le_refl _) hh2) hm2.dom hx2 (fun id ow h => .inr ⟨id, ow, h, rfl⟩) hm2.inj
   (fun id blk hb => (hm2.blk id blk hb).mono none (by simp) (z5 _) (fun ow ho => World.putObj_heap_other (hne2 id ow ho)) hh2 (fun _ _ h => h) (fun _ _ _ => rfl)) (by rw [qa9]; have := hm2.below.size; omega)
  generalize hM2 : (fun b => qz M1 ρ2 b ∧ ¬ ∃ id ow, ρ2 id = some (some ow) ∧ ow.b = b) = M2 at *;have had : a1.defers = [] := ha2.defers rfl
  have ha3 : ARel (E.turn lp (S1 gg x).mem fun id => (ρ2 id).getD none) (W2.putObj lp (.loop { rec .ready none with state := .busy })) M2 (S1 gg x) a1 (W2.putObj lp (.loop { rec .ready none with state := .busy })) := by
   refine ⟨fun _ => had, ha2.size, ρ2, mr2, by rw [had]; exact Marks.nil, fun i => ?_⟩;rw [o2];exact (ht2 i).mono none (by cases (S1 gg x).get i <;> rfl) hh2 (fun _ _ h => h) (fun _ _ _ => rfl)
  refine wpIn_mono (hbody pre x post gg hxs hI lp _ M2 _ a1 _ ha3) ?_;rintro e2 a2 W3 ⟨s3, ha4, hq⟩;obtain ⟨ρ3, hm3, _, _⟩ := ha4.ex
  have hnl2 : ¬ (E.turn lp (S1 gg x).mem fun id => (ρ2 id).getD none).lent lp := fun h => by obtain ⟨id, ow, h1, h2⟩ := (l2 _).1 h; exact hne2 id ow h1 h2
  have hnD2 : ¬ (E.turn lp (S1 gg x).mem fun id => (ρ2 id).getD none).lent D := fun h => by obtain ⟨id, ow, h1, h2⟩ := (l2 _).1 h; exact hne2D id ow h1 h2
  have f3 : W3.heap[lp]? = some (.loop { rec .ready none with state := .busy }) := (hm3.below.block lp (by rw [qa9]; exact hlpW2) hnl2).trans (World.putObj_heap_same hlpW2);have f4 : W3.heap[D]? = some (.deferred (some [])) := (hm3.below.block D (by rw [qa9]; omega) hnD2).trans ((World.putObj_heap_other (by omega)).trans e4)
  have b13 : BelowX L W1 W3 := by
   have hb := hm3.below;have hb2 := hm2.below;refine ⟨hb.os.trans hb2.os, hb.tape.trans hb2.tape, hb.output.trans hb2.output, by have := hb.size; rw [qa9] at this; exact Nat.le_trans hb2.size this, fun k hk hl => ?_⟩;refine (hb.block k (by rw [qa9]; exact Nat.lt_of_lt_of_le hk hb2.size) ?_).trans ((World.putObj_heap_other fun e => hl (.inl e)).trans (hb2.block k hk fun h => hl (.inr ((l1 k).1 h))));intro h;obtain ⟨id, ow, h1, rfl⟩ := (l2 _).1 h
   rcases (hm2.fresh id ow h1).1 with g | g
   ·omega
   ·exact hl (.inr ((l1 _).1 g))
  have fin : ∀ (mx : Mem) (jump : Option Code), qc6 (m g0) mx → qqq mx = true → MemL s3 mx →
    ∃ W4, (Instr.endRound lp jump).run E.P W3 = .ok (.bool jump.isNone) W4 ∧ BelowX Mo W1 W4 ∧ JmN ρ Mo N lp D w2 (.loop (rec (if jump.isNone then .ready else .done) jump)) mx W4 := by
   intro mx jump hs hgd hml;have hr := run_endRound (P := E.P) jump f3
   have hrr : ({ ({ rec .ready none with state := .busy } : Loop) with state := if jump.isNone then .ready else .done, pending := jump } : Loop) = rec (if jump.isNone then .ready else .done) jump := by rw [hrec]
   rw [hrr] at hr;have b14 : BelowX L W1 (W3.putObj lp (.loop (rec (if jump.isNone then .ready else .done) jump))) := b13.trans (wc _ _ _ (.inl rfl));refine ⟨_, hr, b14.mono hLMo, j1.trans b14, fun id blk hb => ?_, World.putObj_heap_same (Array.getElem?_eq_some_iff.1 f3).1, (World.putObj_heap_other (by omega)).trans f4, j5⟩;have hρid := hx0 mx hs id blk hb;have hρ2id := hρ2 id _ hρid;have hρ3 : ∀ id y, ρ2 id = some y → ρ3 id = some y := fun id y h => hm3.keep id y ((wb (fun id => (ρ2 id).getD none)).2 ⟨hm2.dom id y h, by simp only [h, Option.getD_some]⟩)
   have hsub3 : ∀ b, (Mo b ∨ N b) → qz M2 ρ3 b := fun b h => by
    have h1 := hMM b h;rw [← o2] at h1
    rcases h1 with h1 | ⟨id, ow, h1, rfl⟩
    ·exact .inl h1
    ·exact .inr ⟨id, ow, hρ3 id _ h1, rfl⟩
   have hgr2 := List.all_eq_true.1 hgd _ (jn _ hb);simp only [Bool.and_eq_true] at hgr2;have h5 : BRel W3 (fun b => Mo b ∨ N b) ρ id blk := BRel.ground hgr2.2 (hρid.trans (hρ3 id _ hρ2id).symm) ((hm3.blk id blk (qd5 hml id blk hb)).sub hsub3);exact h5.mono none (by simp) (z5 _) (fun ow ho => World.putObj_heap_other (by have := hρlt id ow ho; omega)) (fun b _ hno => World.putObj_heap_other fun e => hno (.inl (.inr (.inr e)))) (fun _ _ h => h) (fun _ _ _ => rfl)
  cases e2 with
  | normal =>
   obtain ⟨g', hI', hq⟩ := hq;obtain ⟨W4, g1, g2, g3⟩ := fin (m g') none (hids _) (hgood _) hq;exact ⟨_, W4, g1, g2, _, rfl, ⟨(fun _ => ⟨g', hI', g3⟩), (fun h => by cases h)⟩⟩
  | ret =>
   obtain ⟨mx, q1, q2, q3, q4⟩ := hq;obtain ⟨W4, g1, g2, g3⟩ := fin mx (some .ret) q2 q3 q4;exact ⟨_, W4, g1, g2, _, rfl, ⟨(fun h => by cases h), fun _ => ⟨_, mx, q1, q2, g3⟩⟩⟩
  | exit id =>
   obtain ⟨mx, q1, q2, q3, q4⟩ := hq;obtain ⟨W4, g1, g2, g3⟩ := fin mx (some (.exit id)) q2 q3 q4;exact ⟨_, W4, g1, g2, _, rfl, ⟨(fun h => by cases h), fun _ => ⟨_, mx, q1, q2, g3⟩⟩⟩
  | _ => exact hq.elim
 ·-- AT THE START
  refine ⟨fun _ => ⟨g0, hg0, BelowX.refl _ w2, fun id blk hb => ?_, hL, hD, fun _ h => h.elim⟩, fun h => by cases h⟩;exact (hm.blk id blk hb).mono none (by simp) (z5 _) (fun ow ho => hgr.block _ (by have := hρlt id ow ho; omega)) hgr.hh (fun b hb h => hMoSub b hb (h.resolve_right (fun h => h))) (fun _ _ _ => rfl)
 ·-- BEHIND THE ITERATOR
  rintro e W' ⟨⟨v, rfl⟩, ⟨hJ, _⟩ | ⟨pre, _, hJ⟩⟩
  ·obtain ⟨gg, hI, hJ⟩ := hJ rfl;refine ⟨none, _, ?_, _, back _ _ _ _ _ (hids gg) hJ, hdone gg hI⟩;have := run_endLoop (P := E.P) hJ.2.2.1 (by rw [hrec]; simp);rw [this, hrec]
  ·obtain ⟨c, mx, q1, q2, hJ⟩ := hJ rfl;have hl := run_endLoop (P := E.P) hJ.2.2.1 (by rw [hrec]; simp);have hb := hstop c pre mx q1 _ _ (back _ _ _ _ _ q2 hJ);rw [hF] at hb
   have hpe : (rec .done (some c)).pending = some c := by rw [hrec]
   refine ⟨some c, _, ?_, hb⟩;rw [hl];subst hrec
   rfl
theorem qdm {α γ : Type} {gop : Operand} {p : Tmp} {assign body : Code} {Q : Exit → ASt → Prop} {n : Nat} {l : List (Nat × TV)} {gf : FuncId} {caps : List G} {enc : α → Value} {s : ASt}
  (xs : List α) (m : γ → Mem) (K : List α → γ → Prop) (g0 : γ) (S1 : γ → α → (Nat → TV) × Mem)
  (hn : s.n = n) (hwk : qj0 s l) (hwm : MemL s (m g0)) (hcl : wk l (m g0) = true)
  (hg : ASt.eval E ⟨n, xx l, m g0⟩ gop = .g (.fn (.func gf) [] caps)) (hk : ze E.P gf) (hseq : SeqN E gf caps enc xs) (gx : α → G) (hgx : ∀ x w M, (gx x).p w M (enc x))
  (hK0 : K xs g0) (hp : Nat.blt p n = true) (hids : ∀ g, qc6 (m g0) (m g)) (hgood : ∀ g, qqq (m g) = true)
  (hassign : ∀ x g lp w1 M1 x1, AWp (E.turn lp (m g) x1) w1 M1 assign (fun e s' => e = .normal ∧ s' = ⟨n, (S1 g x).1, (S1 g x).2⟩) ⟨n, upd p (.g (gx x)) (xx l), m g⟩)
  (hlive1 : ∀ g x, q5g (S1 g x).2 = true)
  (hbody : ∀ x post g, (∃ pre, xs = pre ++ x :: post) → K (x :: post) g → ∀ lp w1 M1 x1, AWp (E.turn lp (S1 g x).2 x1) w1 M1 body (q58 E w0 M0 Q n (xx l) m (K post) (m g0)) ⟨n, (S1 g x).1, (S1 g x).2⟩)
  (hdone : ∀ g, K [] g → Q .normal ⟨n, xx l, m g⟩)
  (hbw : qla E (m g0) = true := by rfl) (hmk : E.mks = true := by rfl) (hrn : E.rnd = none := by rfl) : AWp E w0 M0 (.rangeFunc gop #[p] assign body) Q s := by
 refine quq (l := l) hwk hwm hcl ?_ hbw;show AWp E w0 M0 _ Q ⟨s.n, xx l, m g0⟩;rw [hn];refine qnx m (fun pre g => ∃ tl, xs = pre ++ tl ∧ K tl g) g0 (fun g x => ⟨n, (S1 g x).1, (S1 g x).2⟩) (fun c _ mx => AWp E w0 M0 c Q ⟨n, xx l, mx⟩) hmk hrn hk (Nat.le_of_ble_eq_true hp) hg hseq gx hgx ⟨xs, rfl, hK0⟩ hids hgood
  (fun pre x post g _ _ lp w1 M1 x1 => hassign x g lp w1 M1 x1) hlive1 ?_ ?_ (fun _ _ _ h => h)
 ·rintro pre x post g hxs ⟨tl, htl, hK⟩ lp w1 M1 x1;obtain rfl : tl = x :: post := List.append_cancel_left (htl.symm.trans hxs);refine (hbody x post g ⟨pre, hxs⟩ hK lp w1 M1 x1).mono ?_;rintro e s' h
  cases e with
  | normal =>
   obtain ⟨g', h1, h2⟩ := h;exact ⟨g', ⟨post, by rw [hxs]; simp, h1⟩, h2⟩
  | ret => exact h
  | exit id => exact h
  | _ => exact h
 ·rintro g ⟨tl, htl, hK⟩
  obtain rfl : tl = [] := by
   have := congrArg List.length htl
   simp at this
   exact this
  exact hdone g hK
end
end Go.Sim
set_option maxRecDepth 10000
namespace Go.Sim
open Go.Proofs
abbrev limG (a2 : S2062) : List G := [G.str a2.Name, G.str a2.Kind, G.str a2.Terminal, G.int a2.Length, G.int a2.Step, G.int a2.fFrom, G.int a2.fTo, G.int a2.Period.fFrom, G.int a2.Period.fTo, G.int a2.Period.Days, G.int a2.Most]
def bF (a2 : S2062) : Int := IntKind.i64.wrap (Int.tdiv (IntKind.i64.wrap ((IntKind.i64.wrap (a2.fFrom + a2.Step)) - 1)) a2.Step)
def bN (a2 : S2062) : Int := max 0 (IntKind.i64.wrap ((IntKind.i64.wrap ((IntKind.i64.wrap (Int.tdiv a2.fTo a2.Step)) - (bF a2))) + 1))
def bAt (a2 : S2062) (a1 : Int) (x1 : Int) : Int := IntKind.i64.wrap ((IntKind.i64.wrap (1440 * a1)) + (IntKind.i64.wrap (a2.Step * (IntKind.i64.wrap ((bF a2) + x1)))))
def begL (a2 : S2062) (a1 : Int) : List Int := bif ((decide (a1 < a2.Period.fFrom)) || (decide (a2.Period.fTo < a1))) || (!(qpi a2 a1)) then [] else (List.range (bN a2).toNat).map fun n => bAt a2 a1 (n : Nat)
theorem qxg {α : Type} (f : Nat → α) {k n : Nat} (h : k < n) : (List.range n).map f = (List.range k).map f ++ f k :: (List.range' (k + 1) (n - k - 1)).map f := by
 have e : List.range n = List.range k ++ k :: List.range' (k + 1) (n - k - 1) := by
  rw [List.range_eq_range', List.range_eq_range', show n = k + ((n - k - 1) + 1) by omega, ← List.range'_append_1, Nat.zero_add, List.range'_succ]
  simp
 rw [e, List.map_append, List.map_cons]
theorem qxh (n : Int) : -9223372036854775808 ≤ IntKind.i64.wrap n ∧ IntKind.i64.wrap n ≤ 9223372036854775807 := by rw [IntKind.wrap_i64]; omega
theorem qie {g : GL} (a2 : S2062) (a1 : Int) (hst : a2.Step ≠ 0) : SeqN (EG g) 122 [G.ref [G.int a1], G.ref (limG a2)] (Value.int .i64) (begL a2 a1) := by
 refine qdk Tryz.func122 rfl rfl rfl fun l C => ?_;refine js ?_;refine js ?_;refine z4 [.p, .p, .p, .p, .p, .p, .p, .p, .p, .p, .p, .p, .p, .p, .p, .p, .p, .p] ?_;refine st rfl rfl (qg rfl ty3 rfl) rfl ?_;refine st rfl rfl (qd rfl qe3 rfl) rfl ?_;refine st rfl rfl (qd rfl qck rfl) rfl ?_;refine st rfl rfl (qg rfl ty3 rfl) rfl ?_;refine st rfl rfl (zg rfl rfl rfl) rfl ?_;refine st rfl rfl (qk rfl rfl) rfl ?_;refine st_g rfl rfl rfl (z6 _ _) (fun h => qg rfl ty3 rfl) rfl ?_;refine st_g rfl rfl rfl (z6 _ _) (fun h => qd rfl qe3 rfl) rfl ?_;refine st_g rfl rfl rfl (z6 _ _) (fun h => qd rfl qbh (gd h rfl)) rfl ?_;refine st_g rfl rfl rfl (z6 _ _) (fun h => qg rfl ty3 (gd h rfl)) rfl ?_;refine st_g rfl rfl rfl (z6 _ _) (fun h => ja rfl (gd h rfl) (gd h rfl)) rfl ?_;refine st rfl rfl (jl rfl rfl rfl rfl) rfl ?_;refine st rfl rfl (qk rfl rfl) rfl ?_;refine st_g rfl rfl rfl (z6 _ _) (fun h => qp rfl kz rfl rfl rfl) rfl ?_;refine st_g rfl rfl rfl (z6 _ _) (fun h => qg rfl ty3 rfl) rfl ?_;refine st_g rfl rfl rfl (z6 _ _) (fun h => qf rfl q92 rfl (q84 a2 a1) (qe (gd h rfl) (qe (gd h rfl) qj))) rfl ?_;refine st_g rfl rfl rfl (z6 _ _) (fun h => jk rfl (gd h rfl)) rfl ?_;refine st rfl rfl (jl rfl rfl rfl rfl) rfl ?_;refine qc ?_;refine qab _ rfl (fun h1 => ?_) (fun h1 => ?_)
 ·replace h1 : (((decide (a1 < a2.Period.fFrom)) || (decide (a2.Period.fTo < a1))) || (!(qpi a2 a1))) = true := h1;refine ql1 ?_;refine .inr ?_;unfold begL;rw [h1]
  rfl
 ·replace h1 : (((decide (a1 < a2.Period.fFrom)) || (decide (a2.Period.fTo < a1))) || (!(qpi a2 a1))) = false := h1
  have hxs : begL a2 a1 = (List.range (bN a2).toNat).map fun n => bAt a2 a1 (n : Nat) := by
   unfold begL;rw [h1]
   rfl
  have hbn : 0 ≤ bN a2 ∧ bN a2 ≤ 9223372036854775807 := by
   have := qxh (IntKind.i64.wrap ((IntKind.i64.wrap (Int.tdiv a2.fTo a2.Step)) - (bF a2)) + 1);unfold bN; omega
  refine qaa ?_;refine js ?_;refine z4 [.p, .p, .p, .p, .p, .p, .p, .p, .p, .p] ?_;refine st rfl rfl (qd rfl qnl rfl) rfl ?_;refine st rfl rfl (qg rfl ty3 rfl) rfl ?_;refine st rfl rfl (qd rfl qgq rfl) rfl ?_;refine st rfl rfl (qg rfl ty3 rfl) rfl ?_;refine st rfl rfl (kp rfl rfl rfl) rfl ?_;refine st rfl rfl (kw rfl rfl rfl) rfl ?_;refine st rfl rfl (qd rfl qgq rfl) rfl ?_;refine st rfl rfl (qg rfl ty3 rfl) rfl ?_;refine st rfl rfl (qgc rfl rfl rfl hst) rfl ?_;refine st rfl rfl (zr rfl rfl) rfl ?_;refine qc ?_;refine js ?_;refine z4 [.p, .p, .p, .p, .p, .p, .p, .p, .p, .p] ?_;refine st rfl rfl (qd rfl qnm rfl) rfl ?_;refine st rfl rfl (qg rfl ty3 rfl) rfl ?_;refine st rfl rfl (qd rfl qgq rfl) rfl ?_;refine st rfl rfl (qg rfl ty3 rfl) rfl ?_;refine st rfl rfl (qgc rfl rfl rfl hst) rfl ?_;refine st rfl rfl (qk rfl rfl) rfl ?_;refine st rfl rfl (kw rfl rfl rfl) rfl ?_;refine st rfl rfl (kp rfl rfl rfl) rfl ?_;refine st rfl rfl (qh0 rfl rfl rfl) rfl ?_;refine st rfl rfl (qk rfl rfl) rfl ?_;refine qc ?_;refine vr ?_;refine qdj (γ := Nat) (fun g => [(0, .g (G.lit (.func (.yield l) #[] #[]))), (1, .g (G.ref [G.int a1])), (2, .g (G.ref (limG a2))), (4, .g (G.int (bF a2))), (41, .g (G.int (bN a2))), (42, .g (G.int ((g : Nat) : Int)))])
   (fun g => ((List.range g).map fun n => bAt a2 a1 (n : Nat), false)) (fun g => g ≤ (bN a2).toNat) (fun g => (bN a2).toNat - g) ⟨rfl, 0, ⟨rfl, rfl, rfl, rfl, rfl, rfl, trivial⟩, rfl, rfl, Nat.zero_le _, trivial⟩ ?_
  ·intro k hk;refine js ?_;refine z4 [.p] ?_;refine st rfl rfl (zg rfl rfl rfl) rfl ?_;refine qc ?_;refine js ?_;refine qab _ rfl (fun h2 => ?_) (fun h2 => ?_)
   ·replace h2 : (decide (((k : Nat) : Int) < bN a2)) = true := h2;replace h2 := decT h2
    have hk2 : k < (bN a2).toNat := by omega
    refine qaa ?_;refine js ?_;refine vr ?_;refine js ?_;refine z4 [.p, .p] ?_;refine st rfl rfl (qk rfl rfl) rfl ?_;refine st rfl rfl (zr rfl rfl) rfl ?_;refine qc ?_;refine js ?_;refine qe4 [some .p, some .p, some .p, some .p, some .p, some .p, some .p, some .p, some .p, some .p, none, some .p] ?_;refine ist (st rfl rfl (qk rfl rfl) rfl (qc ?_));refine ist (st rfl rfl (qg rfl ty3 rfl) rfl (qc ?_));refine ist (st rfl rfl (qep rfl rfl rfl) rfl (qc ?_));refine ist (st rfl rfl (qd rfl qgq rfl) rfl (qc ?_));refine ist (st rfl rfl (qg rfl ty3 rfl) rfl (qc ?_));refine ist (st rfl rfl (qk rfl rfl) rfl (qc ?_));refine ist (st rfl rfl (qk rfl rfl) rfl (qc ?_));refine ist (st rfl rfl (kp rfl rfl rfl) rfl (qc ?_));refine ist (st rfl rfl (qep rfl rfl rfl) rfl (qc ?_));refine ist (st rfl rfl (kp rfl rfl rfl) rfl (qc ?_));refine iy (bAt a2 a1 (k : Nat)) rfl rfl rfl rfl rfl rfl (fun w M ρ v h => h) (by rw [hxs]; exact qxg _ hk2) fun b => ?_;refine ist (st rfl rfl (jk rfl rfl) rfl (qc ?_));refine qfu ?_;refine qab (!b) rfl (fun h4 => ?_) (fun h4 => ?_)
    ·refine ql1 ?_;exact .inl h4
    ·have hb : b = true := by simpa using h4
     subst hb;refine qaa ?_;refine z4 [.p, .p] ?_;refine st rfl rfl (zn rfl rfl rfl (by (try dsimp only); unfold I64; omega)) rfl ?_;refine st rfl rfl (qk rfl rfl) rfl ?_;refine qc ?_;refine ⟨rfl, k + 1, ⟨rfl, rfl, rfl, rfl, rfl, rfl, trivial⟩, rfl, ?_, hk2, ?_⟩
     ·show _ = ((List.range (k + 1)).map _, false);rw [List.range_succ, List.map_append]; rfl
     ·show _ - (k + 1) < _; omega
   ·replace h2 : (decide (((k : Nat) : Int) < bN a2)) = false := h2;replace h2 := decF h2
    have hk2 : k = (bN a2).toNat := by omega
    refine qft ?_;refine .inr ?_;rw [hxs, hk2]
end Go.Sim
set_option maxRecDepth 10000
namespace Go.Sim
open Go.Proofs
theorem q6u : tyK Tryz.prog 131 = some (1, false) := by kernel_rfl
theorem q1h : tyK Tryz.prog 111 = some (1, false) := by kernel_rfl
theorem q6v : ze Tryz.prog 122 := ⟨_, Tryz.func122, by kernel_rfl, by kernel_rfl⟩
theorem q93 : ze Tryz.prog 161 := ⟨_, Tryz.func161, by kernel_rfl, by kernel_rfl⟩
theorem kB60 : ze Tryz.prog 64 := ⟨_, Tryz.func64, by kernel_rfl, by kernel_rfl⟩
theorem q94 : ze Tryz.prog 113 := ⟨_, Tryz.func113, by kernel_rfl, by kernel_rfl⟩
theorem q3q {g : GL} (a2 : S2062) (a1 : Int) : Con (EG g) 64 [G.agg (limG a2), G.int a1] (G.fn (.func 122) [] [G.ref [G.int a1], G.ref (limG a2)]) := by
 refine qm Tryz.func64 rfl rfl fun w0 M0 => ?_;refine qb ?_;refine qa [.p, .p, .p] ?_;refine st rfl rfl (zi rfl rfl) rfl ?_;refine st rfl rfl (zi rfl rfl) rfl ?_;refine st rfl rfl (zr rfl rfl) rfl ?_;refine qc ?_;refine qb ?_;refine qa [.p, .p] ?_;refine st rfl rfl (ww rfl rfl rfl) rfl ?_;refine st rfl rfl (zr rfl rfl) rfl ?_;refine qc ?_;refine qo ?_;exact zb rfl (rv_g rfl)
theorem q95 {g : GL} (a2 : S2062) : Con (EG g) 113 [G.agg (limG a2)] (G.fn (.func 161) [] [G.ref (limG a2)]) := by
 refine qm Tryz.func113 rfl rfl fun w0 M0 => ?_;refine qb ?_;refine qa [.p, .p] ?_;refine st rfl rfl (zi rfl rfl) rfl ?_;refine st rfl rfl (zr rfl rfl) rfl ?_;refine qc ?_;refine qb ?_;refine qa [.p, .p] ?_;refine st rfl rfl (ww rfl rfl rfl) rfl ?_;refine st rfl rfl (zr rfl rfl) rfl ?_;refine qc ?_;refine qo ?_;exact zb rfl (rv_g rfl)
def wdsL (a2 : S2062) (n : Nat) : List Int := (List.range n).flatMap fun (k : Nat) => begL a2 (a2.Period.fFrom + (k : Nat))
def qj8 (a2 : S2062) : List Int := wdsL a2 (a2.Period.fTo + 1 - a2.Period.fFrom).toNat
theorem qny (a2 : S2062) (n : Nat) : wdsL a2 (n + 1) = wdsL a2 n ++ begL a2 (a2.Period.fFrom + (n : Nat)) := by
 unfold wdsL; rw [List.range_succ, List.flatMap_append]; simp
theorem q3r (a2 : S2062) {k n : Nat} (h : k ≤ n) : ∃ post, wdsL a2 n = wdsL a2 k ++ post := by
 induction n with
 | zero =>
  obtain rfl : k = 0 := by omega
  exact ⟨[], by simp⟩
 | succ n ih =>
  by_cases hk : k ≤ n
  ·obtain ⟨post, hp⟩ := ih hk;exact ⟨post ++ begL a2 (a2.Period.fFrom + (n : Nat)), by rw [qny, hp, List.append_assoc]⟩
  ·obtain rfl : k = n + 1 := by omega
   exact ⟨[], by simp⟩
theorem qq8 {g : GL} (a2 : S2062) (hst : a2.Step ≠ 0) (hf : 0 ≤ a2.Period.fFrom) (ht : a2.Period.fTo ≤ 1000000) : SeqN (EG g) 161 [G.ref (limG a2)] (Value.int .i64) (qj8 a2) := by
 refine qdk Tryz.func161 rfl rfl rfl fun l C => ?_;refine js ?_;refine z4 [.p] ?_;refine st rfl rfl (zi rfl rfl) rfl ?_;refine qc ?_;refine js ?_;refine z4 [.p, .p, .p, .p] ?_;refine st rfl rfl (qd rfl qe3 rfl) rfl ?_;refine st rfl rfl (qd rfl qck rfl) rfl ?_;refine st rfl rfl (qg rfl ty3 rfl) rfl ?_;refine st rfl rfl (zr rfl rfl) rfl ?_;refine qc ?_;refine vr ?_;refine qdj (γ := Nat) (fun k => [(1, .g (G.ref (limG a2))), (2, .g (G.ref [G.lit (.func (.yield l) #[] #[])])), (3, .g (G.int (a2.Period.fFrom + ((k : Nat) : Int))))])
  (fun k => (wdsL a2 k, false)) (fun k => k ≤ (a2.Period.fTo + 1 - a2.Period.fFrom).toNat) (fun k => (a2.Period.fTo + 1 - a2.Period.fFrom).toNat - k) ⟨rfl, 0, ⟨rfl, rfl, ?_, trivial⟩, rfl, rfl, Nat.zero_le _, trivial⟩ ?_
 ·show TV.g (G.int a2.Period.fFrom) = _
  simp
 intro k hk;refine js ?_;refine js ?_;refine z4 [.p, .p, .p, .p, .p] ?_;refine st rfl rfl (qk rfl rfl) rfl ?_;refine st rfl rfl (qd rfl qe3 rfl) rfl ?_;refine st rfl rfl (qd rfl qbh rfl) rfl ?_;refine st rfl rfl (qg rfl ty3 rfl) rfl ?_;refine st rfl rfl (vp rfl rfl rfl) rfl ?_;refine qc ?_;refine qab _ rfl (fun h2 => ?_) (fun h2 => ?_)
 ·replace h2 : (decide (a2.Period.fFrom + ((k : Nat) : Int) ≤ a2.Period.fTo)) = true := h2;replace h2 := decT h2;obtain ⟨post0, hpost⟩ := q3r a2 (k := k + 1) (n := (a2.Period.fTo + 1 - a2.Period.fFrom).toNat) (by omega);rw [qny] at hpost;refine qaa ?_;refine js ?_;refine vr ?_;refine js ?_;refine z4 [.p, .p, .p] ?_;refine st rfl rfl (qp rfl kz rfl rfl rfl) rfl ?_;refine st rfl rfl (qk rfl rfl) rfl ?_;refine st rfl rfl (qf rfl kB60 rfl (q3q a2 (a2.Period.fFrom + ((k : Nat) : Int))) (qe rfl (qe rfl qj))) rfl ?_;refine qc ?_;refine vr ?_;refine qk2 (begL a2 (a2.Period.fFrom + ((k : Nat) : Int))) [(1, .g (G.ref (limG a2))), (2, .g (G.ref [G.lit (.func (.yield l) #[] #[])])), (3, .g (G.int (a2.Period.fFrom + ((k : Nat) : Int)))), (17, .g (G.fn (.func 122) [] [G.ref [G.int (a2.Period.fFrom + ((k : Nat) : Int))], G.ref (limG a2)]))]
   (fun q => wdsL a2 k ++ q) G.int (fun t y => updO (some 4) (.g (G.int y)) (upd 18 (.g (G.int y)) t)) rfl ⟨rfl, rfl, rfl, rfl, trivial⟩ rfl (by rw [List.append_nil]) q6v rfl rfl (qie a2 _ hst) (fun _ _ _ => rfl) ?_ ?_ ?_ ?_
  ·intro y pre lp C';refine z4 [.p] ?_;refine st rfl rfl (zr rfl rfl) rfl ?_;refine qc ?_;exact ⟨rfl, rfl, rfl⟩
  ·intro q y post hq lp C';refine vr ?_;refine js ?_;refine qe4 [some .p, some .p, none, some .p] ?_;refine ist (st rfl rfl (qg rfl q6u rfl) rfl (qc ?_));refine ist (st rfl rfl (qk rfl rfl) rfl (qc ?_));refine iy (post := post ++ post0) y rfl rfl rfl rfl rfl rfl (fun w M ρ v h => h) (by unfold qj8; rw [hpost, hq]; simp) fun b => ?_;refine ist (st rfl rfl (jk rfl rfl) rfl (qc ?_));refine qfu ?_;refine qab (!b) rfl (fun h4 => ?_) (fun h4 => ?_)
   ·refine ql1 ?_;exact h4
   ·have hb : b = true := by simpa using h4
    subst hb;refine qaa ?_;show (_, _) = (_, _)
    simp
  ·refine z4 [.p, .p, .p] ?_;refine st rfl rfl (qk rfl rfl) rfl ?_;refine st rfl rfl (zn rfl rfl rfl (by (try dsimp only); unfold I64; omega)) rfl ?_;refine st rfl rfl (zr rfl rfl) rfl ?_;refine qc ?_;refine ⟨rfl, k + 1, ⟨rfl, rfl, ?_, trivial⟩, rfl, ?_, ?_, ?_⟩
   ·show TV.g (G.int (a2.Period.fFrom + (k : Nat) + 1)) = TV.g (G.int (a2.Period.fFrom + ((k + 1 : Nat) : Int)))
    congr 2; push_cast; omega
   ·show _ = (wdsL a2 (k + 1), false);rw [qny]
   ·show k + 1 ≤ _; omega
   ·show _ - (k + 1) < _; omega
  ·intro pre;exact .inl rfl
 ·replace h2 : (decide (a2.Period.fFrom + ((k : Nat) : Int) ≤ a2.Period.fTo)) = false := h2;replace h2 := decF h2;refine qft ?_;refine .inr ?_;show wdsL a2 k = qj8 a2;unfold qj8;rw [show k = (a2.Period.fTo + 1 - a2.Period.fFrom).toNat by omega]
end Go.Sim
set_option maxRecDepth 10000
namespace Go.Sim
open Go.Proofs
def ofL (a0 : S2062) (ms : List S1079) : List Int := (ms.filter fun m => qbm a0 m.Kind m.Terminal).map S1079.Moment
theorem qxi : tyK Tryz.prog 191 = some (2, true) := by kernel_rfl
theorem q6w : vu Tryz.prog 191 = some [.string ⟨#[]⟩, .string ⟨#[]⟩] := by kernel_rfl
theorem q6x : Tryz.prog.underlying 190 = some (.map 191 4) := by kernel_rfl
theorem q3s : appK Tryz.prog 132 = some (3, 1, 8) := by kernel_rfl
theorem q96 : Tryz.prog.underlying 132 = some (.slice 3) := by kernel_rfl
theorem kzi4 : (Tryz.prog.info? 4).bind (·.zero) = some (.bool false) := by kernel_rfl
def MOk (a0 : S2062) (m : List ((ByteArray × ByteArray) × Bool)) : Prop := ∀ p ∈ m, ok2 p.1 ∧ p.2 = qbm a0 p.1.1 p.1.2
theorem qnz {K V : Type} [DecidableEq K] {k : K} {v : V} : ∀ {m : List (K × V)}, mget m k = some v → (k, v) ∈ m
 | [], h => by cases h
 | (a, b) :: m, h => by
  unfold mget at h
  by_cases e : a = k
  ·rw [decide_eq_true e] at h; cases h; subst e; exact List.mem_cons_self
  ·rw [decide_eq_false e] at h; exact List.mem_cons_of_mem _ (qnz h)
theorem qsd {K V : Type} [DecidableEq K] {k : K} {v : V} {p : K × V} : ∀ {m : List (K × V)}, p ∈ mset m k v → p ∈ m ∨ p = (k, v)
 | [], h => by simp [mset] at h; exact .inr h
 | (a, b) :: m, h => by
  unfold mset at h
  by_cases e : a = k
  ·rw [decide_eq_true e] at h
   rcases List.mem_cons.1 h with h | h
   ·exact .inr h
   ·exact .inl (List.mem_cons_of_mem _ h)
  ·rw [decide_eq_false e] at h
   rcases List.mem_cons.1 h with h | h
   ·exact .inl (by rw [h]; exact List.mem_cons_self)
   ·rcases qsd h with h | h
    ·exact .inl (List.mem_cons_of_mem _ h)
    ·exact .inr h
theorem MOk.set {a0 : S2062} {m : List ((ByteArray × ByteArray) × Bool)} {k : ByteArray × ByteArray} (h : MOk a0 m) (hk : ok2 k) : MOk a0 (mset m k (qbm a0 k.1 k.2)) := fun p hp => by
 rcases qsd hp with hp | rfl
 ·exact h p hp
 ·exact ⟨hk, rfl⟩
theorem agg2 {w : World} {M : Nat → Prop} {ρ : Rho} {p : ByteArray × ByteArray} {u : Value} (h : TRel w M ρ (.g (G.agg [G.str p.1, G.str p.2])) u) : u = kf2 p := by
 obtain ⟨vs, rfl, h⟩ := h
 match vs, h with
 | [a, b], ⟨⟨h1, _⟩, ⟨h2, _⟩, _⟩ =>
  have h1 : a = .string p.1 := h1;have h2 : b = .string p.2 := h2;rw [h1, h2]; rfl
theorem q3t {g : GL} (a0 : S2062) (a1 : List S1079) (hk : (vd kindL a0.Kind none).isSome = true) (hsz : ∀ m ∈ a1, m.Kind.size ≤ 1000 ∧ m.Terminal.size ≤ 1000) (hb : a1.length ≤ 1000) :
  Con (EG g) 63 [G.agg (limG a0), G.sl 7 (List.map S1079.c a1)] (G.sl 1 (List.map cInt (ofL a0 a1))) := by
 refine qm Tryz.func63 rfl rfl fun w0 M0 => ?_;refine qb ?_;refine qa [.p, .w] ?_;refine st rfl rfl (zi rfl rfl) rfl ?_;refine st_w rfl rfl (xc 4 3 1 rfl rfl rfl) rfl ?_;refine qc ?_;refine qb ?_;refine qa [.w] ?_;refine st_w rfl rfl (xc 5 3 1 rfl rfl rfl) rfl ?_;refine qc ?_;refine qb ?_;refine qa [.w, .p] ?_;refine st_w rfl rfl (qfo 6 rfl rfl) rfl ?_;refine st rfl rfl (qfr rfl rfl) rfl ?_;refine qc ?_;refine qb ?_;refine qb ?_;refine qa [.p, .p, .p] ?_;refine st rfl rfl (qk rfl rfl) rfl ?_;refine st rfl rfl (za (f := S1079.c) (l := a1) rfl Tryz.underlying48 rfl) rfl ?_;refine st rfl rfl (qk rfl rfl) rfl ?_;refine qc ?_;refine qq ?_
 refine zh (γ := Nat × List S1079 × List Int × List ((ByteArray × ByteArray) × Bool)) (fun g => ([(2, .g (G.ref (limG a0))), (5, .osl 5 1 0 (List.length g.2.2.1)), (6, .omap 6), (13, .g (G.sl 7 (List.map S1079.c a1))), (14, .g (G.int (List.length a1 : Int))), (15, .g (G.int ((g.1 : Nat) : Int)))],
  [(5, .arr 3 1 (List.map cInt g.2.2.1)), (6, mpB kf2 G.bool g.2.2.2)]))
  (fun g => g.2.2.1.length ≤ g.1 ∧ MOk a0 g.2.2.2 ∧ a1.drop g.1 = g.2.1 ∧ g.2.2.1 ++ ofL a0 g.2.1 = ofL a0 a1) (fun g => List.length g.2.1) ⟨rfl, (0, a1, [], []), ⟨rfl, rfl, rfl, rfl, rfl, rfl, trivial⟩, ⟨rfl, rfl, trivial⟩, rfl, ⟨Nat.zero_le _, fun _ h => by (cases h), rfl, rfl⟩, trivial⟩ ?_
 rintro ⟨k, tl, out, mm⟩ ⟨iv, hM, hd, hR⟩;replace iv : out.length ≤ k := iv;replace hM : MOk a0 mm := hM;replace hd : a1.drop k = tl := hd;replace hR : out ++ ofL a0 tl = ofL a0 a1 := hR;have hmk : ∀ p ∈ mm, ok2 p.1 := fun p hp => (hM p hp).1;refine qb ?_;refine qa [.p] ?_;refine st rfl rfl (zg rfl rfl rfl) rfl ?_;refine qc ?_;refine qb ?_;refine ql _ rfl (fun h1 => ?_) (fun h1 => ?_)
 ·replace h1 : (decide (((k : Nat) : Int) < (List.length a1 : Int))) = true := h1;obtain ⟨y, tl, rfl, hx1, hd⟩ := zq hd (decT h1);replace h1 := decT h1
  have hok : ok2 (y.Kind, y.Terminal) := by
   have hm : y ∈ a1 := List.mem_of_getElem? hx1;exact hsz y hm
  refine qn ?_;refine qb ?_;refine qq ?_;refine qb ?_;refine qa [.p, .p, .w, .w] ?_;refine st rfl rfl (jd (f := S1079.c) (l := a1) (a := y) rfl Tryz.underlying48 jf rfl rfl (Int.natCast_nonneg _) hx1) rfl ?_;refine st rfl rfl (qp rfl jf rfl rfl rfl) rfl ?_;refine st_w rfl rfl (zc 8 rfl qqw rfl rfl) rfl ?_;refine jb rfl rfl (qu (tv := .g (G.agg (S1079.c y))) rfl jf rfl rfl rfl rfl rfl) ?_;refine qc ?_;refine qgi (l := [(2, .g (G.ref (limG a0))), (5, .osl 5 1 0 (List.length out)), (6, .omap 6), (8, .g (G.ref (S1079.c y))), (13, .g (G.sl 7 (List.map S1079.c a1))), (14, .g (G.int (List.length a1 : Int))), (15, .g (G.int ((k : Nat) : Int)))]) (m := [(5, .arr 3 1 (List.map cInt out)), (6, mpB kf2 G.bool mm)]) 8 rfl ⟨.inl ⟨rfl, rfl⟩, .inl ⟨rfl, rfl⟩, .inl ⟨rfl, rfl⟩, .inr (qc5 rfl), .inl ⟨rfl, rfl⟩, .inl ⟨rfl, rfl⟩, .inl ⟨rfl, rfl⟩, trivial⟩ ⟨rfl, rfl, trivial⟩ rfl rfl ?_;refine qb ?_;refine qa [.p, .p, .p, .p, .p, .w, .w] ?_;refine st rfl rfl (qd rfl qe1 rfl) rfl ?_;refine st rfl rfl (qg rfl ty9 rfl) rfl ?_;refine st rfl rfl (qd rfl qjk rfl) rfl ?_;refine st rfl rfl (qg rfl ty9 rfl) rfl ?_;refine st rfl rfl (qhh rfl q6w rfl u167 ty9 (zz rfl (zz rfl kx)) rfl) rfl ?_;refine st_w rfl rfl (zc 9 rfl q6w rfl rfl) rfl ?_;refine jb rfl rfl (qu (tv := .g (G.agg [G.str y.Kind, G.str y.Terminal])) rfl qxi rfl rfl rfl rfl rfl) ?_;refine qc ?_;refine qgi (l := [(2, .g (G.ref (limG a0))), (5, .osl 5 1 0 (List.length out)), (6, .omap 6), (8, .g (G.ref (S1079.c y))), (9, .g (G.ref [G.str y.Kind, G.str y.Terminal])), (13, .g (G.sl 7 (List.map S1079.c a1))), (14, .g (G.int (List.length a1 : Int))), (15, .g (G.int ((k : Nat) : Int)))]) (m := [(5, .arr 3 1 (List.map cInt out)), (6, mpB kf2 G.bool mm)]) 9 rfl ⟨.inl ⟨rfl, rfl⟩, .inl ⟨rfl, rfl⟩, .inl ⟨rfl, rfl⟩, .inl ⟨rfl, rfl⟩, .inr (qc5 rfl), .inl ⟨rfl, rfl⟩, .inl ⟨rfl, rfl⟩, .inl ⟨rfl, rfl⟩, trivial⟩ ⟨rfl, rfl, trivial⟩ rfl rfl ?_;refine qb ?_;refine qa [.p, .p, .r, .p, .p, .p, .p, .p] ?_;refine st rfl rfl (qci rfl rfl) rfl ?_;refine st rfl rfl (qp rfl qxi rfl rfl rfl) rfl ?_;refine st_r rfl rfl (qpj (k := (y.Kind, y.Terminal)) (z := false) ko2 hok hmk rfl q6x kzi4 (fun _ _ => rfl) rfl (fun _ _ _ _ h => agg2 h) rfl) rfl ?_;refine st rfl rfl (qk rfl rfl) rfl ?_;refine st rfl rfl (qt rfl rfl rfl) rfl ?_;refine st rfl rfl (qt rfl rfl rfl) rfl ?_;refine st rfl rfl (zr rfl rfl) rfl ?_;refine st rfl rfl (zr rfl rfl) rfl ?_;refine qc ?_;refine kl (γ := List ((ByteArray × ByteArray) × Bool)) (fun mm => ([(2, .g (G.ref (limG a0))), (5, .osl 5 1 0 (List.length out)), (6, .omap 6), (8, .g (G.ref (S1079.c y))), (10, .g (G.bool (qbm a0 y.Kind y.Terminal))), (13, .g (G.sl 7 (List.map S1079.c a1))), (14, .g (G.int (List.length a1 : Int))), (15, .g (G.int ((k : Nat) : Int)))], [(5, .arr 3 1 (List.map cInt out)), (6, mpB kf2 G.bool mm)])) (fun mm => MOk a0 mm) ?_ ?_
  ·refine qb ?_;refine qa [.p, .p] ?_;refine st rfl rfl (qk rfl rfl) rfl ?_;refine st rfl rfl (jk rfl rfl) rfl ?_;refine qc ?_;refine ql _ rfl (fun h2 => ?_) (fun h2 => ?_)
   ·refine qb ?_;refine qa [.p, .p, .p, .p, .p, .p, .p] ?_;refine st rfl rfl (qp rfl kz rfl rfl rfl) rfl ?_;refine st rfl rfl (qd rfl qe1 rfl) rfl ?_;refine st rfl rfl (qg rfl ty9 rfl) rfl ?_;refine st rfl rfl (qd rfl qjk rfl) rfl ?_;refine st rfl rfl (qg rfl ty9 rfl) rfl ?_;refine st rfl rfl (qf rfl q3u rfl (q22 a0 y.Kind y.Terminal hk) (qe rfl (qe rfl (qe rfl qj)))) rfl ?_;refine st rfl rfl (zr rfl rfl) rfl ?_;refine qc ?_;refine qa [.p, .p, .p, .w] ?_;refine st rfl rfl (qci rfl rfl) rfl ?_;refine st rfl rfl (qp rfl qxi rfl rfl rfl) rfl ?_;refine st rfl rfl (qk rfl rfl) rfl ?_;refine jb rfl rfl (qqz (k := (y.Kind, y.Terminal)) (v := qbm a0 y.Kind y.Terminal) (ins := false) ko2 hok hmk rfl q6x rfl (fun _ _ _ _ h => agg2 h) rfl rfl) ?_;refine qc ?_;exact ⟨rfl, mset mm (y.Kind, y.Terminal) (qbm a0 y.Kind y.Terminal), ⟨rfl, rfl, rfl, rfl, rfl, rfl, rfl, rfl, trivial⟩, ⟨rfl, rfl, trivial⟩, rfl, hM.set hok, trivial⟩
   ·have h2 : (!(mhas mm (y.Kind, y.Terminal))) = false := h2
    have hv : vd mm (y.Kind, y.Terminal) false = qbm a0 y.Kind y.Terminal := by
     unfold mhas at h2
     cases hq : mget mm (y.Kind, y.Terminal) with
     | none => rw [hq] at h2; cases h2
     | some v =>
      unfold vd;rw [hq];exact (hM _ (qnz hq)).2
    refine qn ?_;exact ⟨rfl, mm, ⟨rfl, rfl, rfl, rfl, congrArg (fun b => TV.g (G.bool b)) hv, rfl, rfl, rfl, trivial⟩, ⟨rfl, rfl, trivial⟩, rfl, hM, trivial⟩
  ·intro mm hM;refine qb ?_;refine qa [.p] ?_;refine st rfl rfl (qk rfl rfl) rfl ?_;refine qc ?_;refine ql _ rfl (fun h2 => ?_) (fun h2 => ?_)
   ·have h2 : qbm a0 y.Kind y.Terminal = true := h2
    have hlen : out.length ≤ 1000 := by
     have := (List.getElem?_eq_some_iff.1 hx1).1
     omega
    refine qa [.p, .p, .p, .p, .k, .p] ?_;refine st rfl rfl (zd rfl rfl) rfl ?_;refine st rfl rfl (qd rfl qba rfl) rfl ?_;refine st rfl rfl (qg rfl ty3 rfl) rfl ?_;refine st rfl rfl (qv rfl q96 ty3 z3 rfl (qw rfl jo) rfl (by simp []) (by decide)) rfl ?_;refine st_k rfl rfl (vi (f := cInt) (out := out) (new := [y.Moment]) rfl q3s rfl rfl (qad rfl (qae (by decide) (by simp []))) (qo5 rfl) (by simp; omega)) rfl ?_;refine st rfl rfl (je rfl rfl) rfl ?_;refine qc ?_;refine qa [.p, .p] ?_;refine st rfl rfl (zn rfl rfl rfl (by unfold I64; omega)) rfl ?_;refine st rfl rfl (qk rfl rfl) rfl ?_;refine qc ?_;refine ⟨rfl, (k + 1, tl, out ++ [y.Moment], mm), ⟨rfl, rfl, rfl, rfl, rfl, rfl, trivial⟩, ⟨rfl, rfl, trivial⟩, rfl, ⟨?_, hM, hd, ?_⟩, by simp⟩
    ·simp; omega
    ·rw [← hR]; simp [ofL, h2]
   ·have h2 : qbm a0 y.Kind y.Terminal = false := h2;refine qn ?_;refine qa [.p, .p] ?_;refine st rfl rfl (zn rfl rfl rfl (by unfold I64; omega)) rfl ?_;refine st rfl rfl (qk rfl rfl) rfl ?_;refine qc ?_;refine ⟨rfl, (k + 1, tl, out, mm), ⟨rfl, rfl, rfl, rfl, rfl, rfl, trivial⟩, ⟨rfl, rfl, trivial⟩, rfl, ⟨?_, hM, hd, ?_⟩, by simp⟩
    ·show out.length ≤ k + 1; omega
    ·rw [← hR]; simp [ofL, h2]
 ·replace h1 : (decide (((k : Nat) : Int) < (List.length a1 : Int))) = false := h1;obtain rfl := z8 hd (decF h1)
  have hR : out = ofL a0 a1 := by rw [← hR]; simp [ofL]
  refine zt ?_;refine qb ?_;refine qa [.p, .p] ?_;refine st rfl rfl (zd rfl rfl) rfl ?_;refine st rfl rfl (je rfl rfl) rfl ?_;refine qc ?_;refine qo ?_;rw [← hR];exact zb rfl (qdt rfl rfl)
theorem qxj {s : ByteArray} {i : Nat} (h : (s.get! i).toNat < 128) : Utf8.decode s i = ((s.get! i).toNat, 1) := by
 unfold Utf8.decode
 simp [h]
theorem qxk {s : ByteArray} {i : Nat} (h : 128 ≤ (s.get! i).toNat) : 128 ≤ (Utf8.decode s i).1 := by
 unfold Utf8.decode;simp only [Nat.add_zero];rw [if_neg (by omega)]
 repeat' split
 all_goals first | assumption | (simp [Utf8.runeError]; done) | (rename_i h2; simp only [Bool.and_eq_true, decide_eq_true_eq] at h2; have h3 := h2.1; dsimp only; omega)
theorem qt8 {s : ByteArray} {i : Nat} (h : i < s.data.toList.length) : s.get! i = s.data.toList[i] := by
 have h' : i < s.data.size := by simpa using h
 show s.data[i]! = _;rw [getElem!_pos s.data i h']
 simp
theorem qxl (s : ByteArray) : ∀ n pos, s.size ≤ pos + n → qee (qkm s n pos) = qiw (s.data.toList.drop pos) pos := by
 intro n
 induction n with
 | zero =>
  intro pos h;rw [List.drop_eq_nil_of_le (by simpa using h)]; rfl
 | succ n ih =>
  intro pos h;unfold qkm
  split
  ·rename_i hp
   have hl : pos < s.data.toList.length := by simpa using hp
   rw [List.drop_eq_getElem_cons hl, qee, qiw, ← qt8 hl]
   rcases Nat.lt_or_ge (s.get! pos).toNat 128 with hb | hb
   ·rw [qxj hb, ih (pos + 1) (by omega)];have e1 : (decide (((pos : Nat) : Int) = 0)) = decide ((pos : Int) = 0) := rfl;dsimp only;rw [Bool.or_comm ((decide ((65 : Int) ≤ _)) && _)]
   ·have hb2 := qxk hb
    have c1 : (!(((decide ((65 : Int) ≤ ((Utf8.decode s pos).1 : Int))) && (decide (((Utf8.decode s pos).1 : Int) ≤ 90))) || ((decide ((97 : Int) ≤ ((Utf8.decode s pos).1 : Int))) && (decide (((Utf8.decode s pos).1 : Int) ≤ 122))))) = true := by
     simp; omega
    have c2 : (!(((decide ((97 : Int) ≤ ((s.get! pos).toNat : Int))) && (decide (((s.get! pos).toNat : Int) ≤ 122))) || ((decide ((65 : Int) ≤ ((s.get! pos).toNat : Int))) && (decide (((s.get! pos).toNat : Int) ≤ 90))))) = true := by
     simp; omega
    dsimp only;rw [c1, c2]
    have d1 : (decide (((Utf8.decode s pos).1 : Int) ≠ 95) && (decide (((Utf8.decode s pos).1 : Int) < 48) || decide (57 < ((Utf8.decode s pos).1 : Int)))) = true := by simp; omega
    have d2 : (decide (((s.get! pos).toNat : Int) ≠ 95) && (decide (((s.get! pos).toNat : Int) < 48) || decide (57 < ((s.get! pos).toNat : Int)))) = true := by simp; omega
    rw [d1, d2]; simp
  ·rename_i hp
   rw [List.drop_eq_nil_of_le (by simpa using hp)]; rfl
theorem qds (s : ByteArray) : s147 s = s91 s := by
 unfold s147 s91 qy5;rw [qxl s _ 0 (by omega)]; rfl
theorem qxm {α : Type} {l : List α} {i : Nat} (h : i < l.length) : ixO l (i : Int) = some l[i] := by
 unfold ixO; rw [decide_eq_true (by omega), cond_true]; simp [h]
theorem qxn (a b : Int) : qph a b = decide (a < b) := by
 have h : ∀ x, s202 x = false := fun x => by unfold s202; simp
 unfold qph; rw [h]; simp
theorem qse (t : Int) : ∀ {ms : List Int}, ms.Pairwise (· ≤ ·) → ∀ i (hi : i < ms.length), (ms[i] < t ↔ i < (ms.takeWhile (fun x => decide (x < t))).length)
 | [], _, i, hi => by simp at hi
 | x :: ms, h, i, hi => by
  rw [List.pairwise_cons] at h
  by_cases hx : x < t
  ·rw [List.takeWhile_cons_of_pos (by simp [hx])]
   cases i with
   | zero => simp [hx]
   | succ i =>
    have := qse t h.2 i (by simpa using hi);simp only [List.getElem_cons_succ, List.length_cons]
    omega
  ·rw [List.takeWhile_cons_of_neg (by simp [hx])]
   cases i with
   | zero => simp; omega
   | succ i =>
    have := h.1 (ms[i]'(by simpa using hi)) (List.getElem_mem _);simp only [List.getElem_cons_succ, List.length_nil]
    omega
theorem qn0 (t : Int) {ms : List Int} (h : ms.Pairwise (· ≤ ·)) (p : Nat) (hp : p = (ms.takeWhile (fun x => decide (x < t))).length) : ∀ (k lo hi : Nat), lo ≤ p → p ≤ hi → hi ≤ ms.length → hi - lo < k → ∃ b, qb8 ms t k (lo : Int) (hi : Int) = some ((p : Int), b)
 | 0, lo, hi, _, _, _, h => by omega
 | k + 1, lo, hi, h1, h2, h3, h4 => by
  rw [qb8]
  by_cases hc : lo < hi
  ·rw [decide_eq_true (by omega : (lo : Int) < (hi : Int)), cond_true]
   have e : ((lo : Int) + (hi : Int)) / 2 = (((lo + hi) / 2 : Nat) : Int) := by omega
   have hlt : (lo + hi) / 2 < ms.length := by omega
   rw [e, qxm hlt];simp only [zf];rw [qxn];have hi' := qse t h ((lo + hi) / 2) hlt;rw [← hp] at hi'
   by_cases hm : ms[(lo + hi) / 2] < t
   ·rw [decide_eq_true hm, cond_true, show ((((lo + hi) / 2 : Nat) : Int) + 1) = (((lo + hi) / 2 + 1 : Nat) : Int) by push_cast; rfl];exact qn0 t h p hp k _ _ (by have := hi'.1 hm; omega) h2 h3 (by omega)
   ·rw [decide_eq_false hm, cond_false];exact qn0 t h p hp k _ _ h1 (by have : ¬ (lo + hi) / 2 < p := fun q => hm (hi'.2 q); omega) (by omega) (by omega)
  ·have e1 : lo = p := by omega
   subst e1;rw [decide_eq_false (by omega : ¬ (lo : Int) < (hi : Int)), cond_false]
   by_cases hl : lo < ms.length
   ·rw [decide_eq_true (by omega : (lo : Int) < (ms.length : Int)), cond_true, qxm hl];simp only [zf, Bool.true_and]
    cases hq : (!(decide (ms[lo] = t)))
    ·exact ⟨_, rfl⟩
    ·exact ⟨_, rfl⟩
   ·rw [decide_eq_false (by omega : ¬ (lo : Int) < (ms.length : Int)), cond_false];simp only [zf, Bool.false_and, cond_false];exact ⟨_, rfl⟩
theorem qpr (t : Int) : ∀ {ms : List Int}, ms.Pairwise (· ≤ ·) → (ms.takeWhile (fun x => decide (x < t))).length = (ms.filter (fun x => decide (x < t))).length
 | [], _ => rfl
 | x :: ms, h => by
  rw [List.pairwise_cons] at h
  by_cases hx : x < t
  ·rw [List.takeWhile_cons_of_pos (by simp [hx]), List.filter_cons_of_pos (by simp [hx]), List.length_cons, List.length_cons, qpr t h.2]
  ·rw [List.takeWhile_cons_of_neg (by simp [hx]), List.filter_cons_of_neg (by simp [hx])]
   symm
   rw [List.length_nil, List.length_eq_zero_iff, List.filter_eq_nil_iff];intro y hy;have := h.1 y hy
   simp; omega
def cntI (ms : List Int) (b len : Int) : Int := ((ms.filter (fun x => decide (b ≤ x) && decide (x < b + len))).length : Nat)
theorem qk3 (b len : Int) (hl : 0 ≤ len) : ∀ (ms : List Int), ((ms.filter (fun x => decide (x < b + len))).length : Int) - (ms.filter (fun x => decide (x < b))).length = cntI ms b len
 | [] => rfl
 | x :: ms => by
  have ih := qk3 b len hl ms;unfold cntI at ih ⊢;simp only [List.filter_cons]
  by_cases h1 : x < b
  ·have h2 : x < b + len := by omega
   have h3 : ¬ b ≤ x := by omega
   simp only [h1, h2, h3, decide_true, decide_false, if_true, Bool.false_and, Bool.false_eq_true, if_false, List.length_cons]
   push_cast; omega
  ·by_cases h2 : x < b + len
   ·have h3 : b ≤ x := by omega
    simp only [h1, h2, h3, decide_true, decide_false, if_true, Bool.true_and, Bool.and_self, Bool.false_eq_true, if_false, List.length_cons]
    push_cast; omega
   ·simp only [h1, h2, decide_false, if_true, Bool.and_false, Bool.false_eq_true, if_false];exact ih
theorem qsf {ms : List Int} (h : ms.Pairwise (· ≤ ·)) (t : Int) : qtx ms t = some ((ms.filter (fun x => decide (x < t))).length : Int) := by
 unfold qtx qzf;obtain ⟨b, hb⟩ := qn0 t h _ rfl (((List.length ms : Int) - 0).toNat + 1) 0 ms.length (Nat.zero_le _) (List.takeWhile_sublist _).length_le (Nat.le_refl _) (by omega);have hb : qb8 ms t (((List.length ms : Int) - 0).toNat + 1) 0 (List.length ms : Int) = _ := hb;rw [hb, qpr t h]
 rfl
theorem qn1 {ms : List Int} (h : ms.Pairwise (· ≤ ·)) (hl : ms.length ≤ 1000) {b len : Int} (hb : 0 ≤ b) (hb2 : b ≤ 2000000000) (hlen : 0 ≤ len) (hlen2 : len ≤ 1440) : qzg ms b len = some (cntI ms b len) := by
 unfold qzg;rw [wrap_i64 (by unfold I64; omega), qsf h, qsf h];simp only [zf];have h1 := List.length_filter_le (fun x => decide (x < b + len)) ms;have h2 := List.length_filter_le (fun x => decide (x < b)) ms;rw [wrap_i64 (by unfold I64; omega), qk3 b len hlen]
end Go.Sim
set_option maxRecDepth 10000
namespace Go.Sim
open Go.Proofs
structure LimOk (a : S2062) : Prop where
 k : (vd kindL a.Kind none).isSome = true
 s0 : 1 ≤ a.Step
 s1 : a.Step ≤ 1440
 l0 : 1 ≤ a.Length
 l1 : a.Length ≤ 1440
 f0 : 0 ≤ a.fFrom
 f1 : a.fFrom ≤ 1439
 t0 : 0 ≤ a.fTo
 t1 : a.fTo ≤ 1439
 p0 : 0 ≤ a.Period.fFrom
 p1 : a.Period.fTo ≤ 1000000
 m0 : 0 ≤ a.Most
 m1 : a.Most ≤ 999999999
theorem q3l {a : S2062} (h : LimOk a) : bF a = (a.fFrom + a.Step - 1) / a.Step ∧ 0 ≤ bF a ∧ bF a ≤ 3000 ∧ a.fFrom ≤ a.Step * bF a := by
 have h1 := h.s0; have h2 := h.s1; have h3 := h.f0; have h4 := h.f1
 have e : bF a = (a.fFrom + a.Step - 1) / a.Step := by
  unfold bF;rw [wrap_i64 (n := a.fFrom + a.Step) (by unfold I64; omega), wrap_i64 (n := a.fFrom + a.Step - 1) (by unfold I64; omega), Int.tdiv_eq_ediv_of_nonneg (by omega)];have b1 : 0 ≤ (a.fFrom + a.Step - 1) / a.Step := Int.ediv_nonneg (by omega) (by omega);have b2 : (a.fFrom + a.Step - 1) / a.Step ≤ a.fFrom + a.Step - 1 := Int.ediv_le_self _ (by omega);rw [wrap_i64 (by unfold I64; omega)]
 have b1 : 0 ≤ (a.fFrom + a.Step - 1) / a.Step := Int.ediv_nonneg (by omega) (by omega);have b2 : (a.fFrom + a.Step - 1) / a.Step ≤ a.fFrom + a.Step - 1 := Int.ediv_le_self _ (by omega);have b3 := Int.emod_add_mul_ediv (a.fFrom + a.Step - 1) a.Step;have b4 := Int.emod_lt_of_pos (a.fFrom + a.Step - 1) (show 0 < a.Step by omega);refine ⟨e, by omega, by omega, ?_⟩;rw [e]; omega
theorem q6h {a : S2062} (h : LimOk a) : bN a = max 0 (a.fTo / a.Step - bF a + 1) := by
 obtain ⟨_, h5, h6, _⟩ := q3l h;have h1 := h.s0; have h3 := h.t0; have h4 := h.t1;have b1 : 0 ≤ a.fTo / a.Step := Int.ediv_nonneg (by omega) (by omega);have b2 : a.fTo / a.Step ≤ a.fTo := Int.ediv_le_self _ (by omega);unfold bN;rw [Int.tdiv_eq_ediv_of_nonneg (by omega), wrap_i64 (n := a.fTo / a.Step) (by unfold I64; omega), wrap_i64 (n := a.fTo / a.Step - bF a) (by unfold I64; omega), wrap_i64 (by unfold I64; omega)]
theorem q6y {a : S2062} (h : LimOk a) {d : Int} (hd : 0 ≤ d) (hd2 : d ≤ 1000000) {n : Nat} (hn : n < (bN a).toNat) : bAt a d n = 1440 * d + a.Step * (bF a + n) ∧ a.fFrom ≤ a.Step * (bF a + n) ∧ a.Step * (bF a + n) ≤ a.fTo := by
 obtain ⟨_, h5, h6, h7⟩ := q3l h;have hbn := q6h h;have h1 := h.s0; have h2 := h.s1; have h3 := h.t0; have h4 := h.t1;have b2 : a.fTo / a.Step ≤ a.fTo := Int.ediv_le_self _ (by omega)
 have hle : bF a + n ≤ a.fTo / a.Step := by omega
 have hm : a.Step * (bF a + n) ≤ a.Step * (a.fTo / a.Step) := Int.mul_le_mul_of_nonneg_left hle (by omega);have b3 := Int.emod_add_mul_ediv a.fTo a.Step;have b4 := Int.emod_nonneg a.fTo (show a.Step ≠ 0 by omega);have hm2 : a.Step * bF a ≤ a.Step * (bF a + n) := Int.mul_le_mul_of_nonneg_left (by omega) (by omega);refine ⟨?_, by omega, by omega⟩;unfold bAt;have hf := h.f0;rw [wrap_i64 (n := 1440 * d) (by unfold I64; omega), wrap_i64 (n := bF a + n) (by unfold I64; omega), wrap_i64 (n := a.Step * (bF a + n)) (by unfold I64; omega), wrap_i64 (by unfold I64; omega)]
theorem qf8 {a : S2062} (h : LimOk a) {d b : Int} (hb : b ∈ begL a d) : a.Period.fFrom ≤ d ∧ d ≤ a.Period.fTo ∧ 1440 * d ≤ b ∧ b ≤ 1440 * d + 1439 := by
 have hp0 := h.p0; have hp1 := h.p1;unfold begL at hb
 cases hc : (((decide (d < a.Period.fFrom)) || (decide (a.Period.fTo < d))) || (!(qpi a d))) with
 | true => rw [hc] at hb; cases hb
 | false =>
  rw [hc] at hb;simp only [Bool.or_eq_false_iff, decide_eq_false_iff_not] at hc;obtain ⟨n, hn, rfl⟩ := List.mem_map.1 hb;rw [List.mem_range] at hn;have := q6y h (d := d) (by omega) (by omega) hn;have := h.f0; have := h.t1
  omega
theorem qxo {a : S2062} (h : LimOk a) {b : Int} (hb : b ∈ qj8 a) : 0 ≤ b ∧ b ≤ 2000000000 := by
 have hp0 := h.p0; have hp1 := h.p1;obtain ⟨k, _, hk⟩ := List.mem_flatMap.1 hb;have := qf8 h hk
 omega
def qqk (i : Nat) (l : S2062) (own : List Int) (b : Int) : Option S2068 := bif decide (cntI own b l.Length > l.Most) then some ⟨(i : Nat), b, cntI own b l.Length⟩ else none
def exL (ms : List S1079) : List S2062 → Nat → List S2068
 | [], _ => []
 | l :: t, i => (qj8 l).filterMap (qqk i l (ofL l ms)) ++ exL ms t (i + 1)
def winE (x : S2068) : Value := .agg #[.int .i64 x.Limit, .int .i64 x.Begin, .int .i64 x.Count]
def winG (x : S2068) : G := G.agg (S2068.c x)
theorem q1i (x : S2068) (w : World) (M : Nat → Prop) : (winG x).p w M (winE x) := ⟨[_, _, _], rfl, ⟨rfl, rfl⟩, ⟨rfl, rfl⟩, ⟨rfl, rfl⟩, trivial⟩
theorem qxp {x : S2068} {w : World} {M : Nat → Prop} {ρ : Rho} {v : Value} (h : TRel w M ρ (.g (winG x)) v) : v = winE x := by
 obtain ⟨vs, rfl, h⟩ := h
 match vs, h with
 | [a, b, c], ⟨⟨h1, _⟩, ⟨h2, _⟩, ⟨h3, _⟩, _⟩ =>
  have h1 : a = .int .i64 x.Limit := h1;have h2 : b = .int .i64 x.Begin := h2;have h3 : c = .int .i64 x.Count := h3;rw [h1, h2, h3]; rfl
theorem q6z : qaj Tryz.prog 60 = some [(0, 1), (1, 1), (2, 1)] := by kernel_rfl
theorem q60 : vu Tryz.prog 132 = some [.slice none 0 0] := by kernel_rfl
theorem qsg : tyK Tryz.prog 132 = some (1, false) := by kernel_rfl
theorem kz63 : vu Tryz.prog 62 = some [.string ⟨#[]⟩, .string ⟨#[]⟩, .string ⟨#[]⟩, .int .i64 0, .int .i64 0, .int .i64 0, .int .i64 0, .int .i64 0, .int .i64 0, .int .i64 0, .int .i64 0] := by kernel_rfl
theorem q61 : tyK Tryz.prog 22 = some (1, false) := by kernel_rfl
theorem q62 : tyK Tryz.prog 48 = some (1, false) := by kernel_rfl
theorem kE61 : ze Tryz.prog 63 := ⟨_, Tryz.func63, by kernel_rfl, by kernel_rfl⟩
theorem kE62 : ze Tryz.prog 65 := ⟨_, Tryz.func65, by kernel_rfl, by kernel_rfl⟩
structure MsOk (ms : List S1079) : Prop where
 len : ms.length ≤ 1000
 sz : ∀ m ∈ ms, m.Kind.size ≤ 1000 ∧ m.Terminal.size ≤ 1000
 srt : (ms.map S1079.Moment).Pairwise (· ≤ ·)
theorem qif {ms : List S1079} (h : MsOk ms) (l : S2062) : (ofL l ms).Pairwise (· ≤ ·) := by
 have h := h.srt;unfold ofL;rw [List.pairwise_map] at h ⊢;exact h.filter _
theorem qig {ms : List S1079} (h : MsOk ms) (l : S2062) : (ofL l ms).length ≤ 1000 := by
 have := List.length_filter_le (fun m => qbm l m.Kind m.Terminal) ms;have := h.len;unfold ofL;rw [List.length_map]; omega
theorem qps {g : GL} (a0 : List S2062) (a1 : List S1079) (hl0 : a0.length ≤ 1000) (hl : ∀ x ∈ a0, LimOk x) (hm : MsOk a1) : SeqN (EG g) 112 [G.ref [G.sl 11 (List.map S2062.c a0)], G.ref [G.sl 7 (List.map S1079.c a1)]] winE (exL a1 a0 0) := by
 refine qdk Tryz.func112 rfl rfl rfl fun l C => ?_;refine js ?_;refine z4 [.p] ?_;refine st rfl rfl (zi rfl rfl) rfl ?_;refine qc ?_;refine js ?_;refine z4 [.p, .p, .p] ?_;refine st rfl rfl (qg rfl q61 rfl) rfl ?_;refine st rfl rfl (za (f := S2062.c) (l := a0) rfl Tryz.underlying22 rfl) rfl ?_;refine st rfl rfl (qk rfl rfl) rfl ?_;refine qc ?_;refine vr ?_;refine qdj (γ := Nat × List S2062 × List S2068) (fun g => [(1, .g (G.ref [G.sl 11 (List.map S2062.c a0)])), (2, .g (G.ref [G.sl 7 (List.map S1079.c a1)])), (3, .g (G.ref [G.lit (.func (.yield l) #[] #[])])), (9, .g (G.sl 11 (List.map S2062.c a0))), (10, .g (G.int (List.length a0 : Int))), (11, .g (G.int ((g.1 : Nat) : Int)))])
  (fun g => (g.2.2, false)) (fun g => a0.drop g.1 = g.2.1 ∧ g.2.2 ++ exL a1 g.2.1 g.1 = exL a1 a0 0) (fun g => List.length g.2.1) ⟨rfl, (0, a0, []), ⟨rfl, rfl, rfl, rfl, rfl, rfl, trivial⟩, rfl, rfl, ⟨rfl, rfl⟩, trivial⟩ ?_
 rintro ⟨k, tl, pre0⟩ ⟨hd, hR⟩;replace hd : a0.drop k = tl := hd;replace hR : pre0 ++ exL a1 tl k = exL a1 a0 0 := hR;refine js ?_;refine z4 [.p] ?_;refine st rfl rfl (zg rfl rfl rfl) rfl ?_;refine qc ?_;refine js ?_;refine qab _ rfl (fun h1 => ?_) (fun h1 => ?_)
 ·replace h1 : (decide (((k : Nat) : Int) < (List.length a0 : Int))) = true := h1;obtain ⟨y, tl, rfl, hx1, hd⟩ := zq hd (decT h1);replace h1 := decT h1;have hy : LimOk y := hl y (List.mem_of_getElem? hx1);rw [exL] at hR;have hlen := hm.len
  have hln : (List.length a0 : Int) ≤ 1000 := by have := hl0; omega
  refine qaa ?_;refine js ?_;refine vr ?_;refine js ?_;refine z4 [.p, .p, .p, .w, .w, .w, .w] ?_;refine st rfl rfl (qk rfl rfl) rfl ?_;refine st rfl rfl (jd (f := S2062.c) (l := a0) (a := y) rfl Tryz.underlying22 kz rfl rfl (Int.natCast_nonneg _) hx1) rfl ?_;refine st rfl rfl (qp rfl kz rfl rfl rfl) rfl ?_;refine st_w rfl rfl (zc 4 rfl z3 rfl rfl) rfl ?_;refine st_w rfl rfl (zc 5 rfl kz63 rfl rfl) rfl ?_;refine jb rfl rfl (qu (tv := .g (G.int ((k : Nat) : Int))) rfl ty3 rfl rfl rfl rfl rfl) ?_;refine jb rfl rfl (qu (tv := .g (G.agg (limG y))) rfl kz rfl rfl rfl rfl rfl) ?_;refine qc ?_;refine qcm (l1 := [(1, .g (G.ref [G.sl 11 (List.map S2062.c a0)])), (2, .g (G.ref [G.sl 7 (List.map S1079.c a1)])), (3, .g (G.ref [G.lit (.func (.yield l) #[] #[])])), (4, .g (G.ref [G.int ((k : Nat) : Int)])), (5, .ptr 5 0), (9, .g (G.sl 11 (List.map S2062.c a0))), (10, .g (G.int (List.length a0 : Int))), (11, .g (G.int ((k : Nat) : Int)))]) (m := [(5, .box [.g (G.str y.Name), .g (G.str y.Kind), .g (G.str y.Terminal), .g (G.int y.Length), .g (G.int y.Step), .g (G.int y.fFrom), .g (G.int y.fTo), .g (G.int y.Period.fFrom), .g (G.int y.Period.fTo), .g (G.int y.Period.Days), .g (G.int y.Most)])]) 4 rfl ⟨.inl ⟨rfl, rfl⟩, .inl ⟨rfl, rfl⟩, .inl ⟨rfl, rfl⟩, .inr (qc5 rfl), .inl ⟨rfl, rfl⟩, .inl ⟨rfl, rfl⟩, .inl ⟨rfl, rfl⟩, .inl ⟨rfl, rfl⟩, trivial⟩ ⟨rfl, trivial⟩ rfl rfl ?_;refine qcm (l1 := [(1, .g (G.ref [G.sl 11 (List.map S2062.c a0)])), (2, .g (G.ref [G.sl 7 (List.map S1079.c a1)])), (3, .g (G.ref [G.lit (.func (.yield l) #[] #[])])), (4, .g (G.ref [G.int ((k : Nat) : Int)])), (5, .g (G.ref (limG y))), (9, .g (G.sl 11 (List.map S2062.c a0))), (10, .g (G.int (List.length a0 : Int))), (11, .g (G.int ((k : Nat) : Int)))]) (m := []) 5 rfl ⟨.inl ⟨rfl, rfl⟩, .inl ⟨rfl, rfl⟩, .inl ⟨rfl, rfl⟩, .inl ⟨rfl, rfl⟩, .inr (qc5 rfl), .inl ⟨rfl, rfl⟩, .inl ⟨rfl, rfl⟩, .inl ⟨rfl, rfl⟩, trivial⟩ trivial rfl rfl ?_;refine js ?_;refine z4 [.p, .p, .p, .w, .w] ?_;refine st rfl rfl (qp rfl kz rfl rfl rfl) rfl ?_;refine st rfl rfl (qg rfl q62 rfl) rfl ?_;refine st rfl rfl (qf rfl kE61 rfl (q3t y a1 hy.k hm.sz hm.len) (qe rfl (qe rfl qj))) rfl ?_;refine st_w rfl rfl (zc 6 rfl q60 rfl rfl) rfl ?_;refine jb rfl rfl (qu (tv := .g (G.sl 1 (List.map cInt (ofL y a1)))) rfl qsg rfl rfl rfl rfl rfl) ?_;refine qc ?_;refine qcm (l1 := [(1, .g (G.ref [G.sl 11 (List.map S2062.c a0)])), (2, .g (G.ref [G.sl 7 (List.map S1079.c a1)])), (3, .g (G.ref [G.lit (.func (.yield l) #[] #[])])), (4, .g (G.ref [G.int ((k : Nat) : Int)])), (5, .g (G.ref (limG y))), (6, .g (G.ref [G.sl 1 (List.map cInt (ofL y a1))])), (9, .g (G.sl 11 (List.map S2062.c a0))), (10, .g (G.int (List.length a0 : Int))), (11, .g (G.int ((k : Nat) : Int)))]) (m := []) 6 rfl ⟨.inl ⟨rfl, rfl⟩, .inl ⟨rfl, rfl⟩, .inl ⟨rfl, rfl⟩, .inl ⟨rfl, rfl⟩, .inl ⟨rfl, rfl⟩, .inr (qc5 rfl), .inl ⟨rfl, rfl⟩, .inl ⟨rfl, rfl⟩, .inl ⟨rfl, rfl⟩, trivial⟩ trivial rfl rfl ?_;refine js ?_;refine z4 [.p, .p] ?_;refine st rfl rfl (qp rfl kz rfl rfl rfl) rfl ?_;refine st rfl rfl (qf rfl q94 rfl (q95 y) (qe rfl qj)) rfl ?_;refine qc ?_;refine vr ?_;refine qk2 (qj8 y) [(1, .g (G.ref [G.sl 11 (List.map S2062.c a0)])), (2, .g (G.ref [G.sl 7 (List.map S1079.c a1)])), (3, .g (G.ref [G.lit (.func (.yield l) #[] #[])])), (4, .g (G.ref [G.int ((k : Nat) : Int)])), (5, .g (G.ref (limG y))), (6, .g (G.ref [G.sl 1 (List.map cInt (ofL y a1))])), (9, .g (G.sl 11 (List.map S2062.c a0))), (10, .g (G.int (List.length a0 : Int))), (11, .g (G.int ((k : Nat) : Int))), (20, .g (G.fn (.func 161) [] [G.ref (limG y)]))]
   (fun q => pre0 ++ q.filterMap (qqk k y (ofL y a1))) G.int (fun t z => updO (some 7) (.g (G.int z)) (upd 21 (.g (G.int z)) t)) rfl ⟨rfl, rfl, rfl, rfl, rfl, rfl, rfl, rfl, rfl, rfl, trivial⟩ rfl (by simp) q93 rfl rfl
   (qq8 y (by have := hy.s0; omega) hy.p0 hy.p1) (fun _ _ _ => rfl) ?_ ?_ ?_ ?_
  ·intro z pre lp C';refine z4 [.p] ?_;refine st rfl rfl (zr rfl rfl) rfl ?_;refine qc ?_;exact ⟨rfl, rfl, rfl⟩
  ·intro q z post hq lp C';have hz := qxo hy (b := z) (by rw [hq]; simp);refine vr ?_;refine js ?_;refine z4 [.p, .p, .p, .p, .p, .p] ?_;refine st rfl rfl (qg rfl qsg rfl) rfl ?_;refine st rfl rfl (qk rfl rfl) rfl ?_;refine st rfl rfl (qd rfl qe2 rfl) rfl ?_;refine st rfl rfl (qg rfl ty3 rfl) rfl ?_;refine st rfl rfl (qf rfl kE62 rfl (q23 (ofL y a1) z y.Length (qig hm y) (qn1 (qif hm y) (qig hm y) hz.1 hz.2 (by have := hy.l0; omega) hy.l1)) (qe rfl (qe rfl (qe rfl qj)))) rfl ?_;refine st rfl rfl (zr rfl rfl) rfl ?_;refine qc ?_;refine js ?_;refine qe4 [some .p, some .p, some .p, some .p, some .p, some .p, some .p, some .p, some .p, some .p, none, some .p, some .p] ?_;refine ist (st rfl rfl (qk rfl rfl) rfl (qc ?_));refine ist (st rfl rfl (qd rfl qjl rfl) rfl (qc ?_));refine ist (st rfl rfl (qg rfl ty3 rfl) rfl (qc ?_));refine ist (st rfl rfl (ja rfl rfl rfl) rfl (qc ?_));refine ist (st rfl rfl (qk rfl rfl) rfl (qc ?_));refine ist (st_g rfl rfl rfl (z6 _ _) (fun h => qg rfl q1h rfl) rfl (qc ?_));refine ist (st_g rfl rfl rfl (z6 _ _) (fun h => qg rfl ty3 rfl) rfl (qc ?_));refine ist (st_g rfl rfl rfl (z6 _ _) (fun h => qk rfl rfl) rfl (qc ?_));refine ist (st_g rfl rfl rfl (z6 _ _) (fun h => qk rfl rfl) rfl (qc ?_));refine ist (st_g rfl rfl rfl (z6 _ _) (fun h => jg rfl qhb rfl q6z (zz (gd h rfl) (zz (gd h rfl) (zz (gd h rfl) kx))) rfl) rfl (qc ?_));have hex : qqk k y (ofL y a1) z = bif decide (cntI (ofL y a1) z y.Length > y.Most) then some ⟨(k : Nat), z, cntI (ofL y a1) z y.Length⟩ else none := rfl
   revert hex
   show (_ = cond (decide (y.Most < cntI (ofL y a1) z y.Length)) _ _) → _;generalize decide (y.Most < cntI (ofL y a1) z y.Length) = c
   cases c with
   | false =>
    intro hex;refine iy_g false rfl rfl rfl (z6 _ _) rfl rfl (fun _ => ?_) (fun h => by cases h);refine ist (st_g (gb := false) (r := .g (G.bool false)) rfl rfl rfl (z6 _ _) (fun h => by cases h) rfl (qc ?_));refine ist (st rfl rfl (qdp rfl rfl rfl) rfl (qc ?_));refine qfu ?_;refine qab false rfl (fun h4 => by cases h4) (fun h4 => ?_);refine qaa ?_;show (_, _) = (_, _);rw [List.filterMap_append]
    simp [hex]
   | true =>
    intro hex;refine iy_g true rfl rfl rfl (z6 _ _) rfl rfl (fun h => by cases h) (fun _ => ⟨rfl, rfl, ⟨(k : Nat), z, cntI (ofL y a1) z y.Length⟩, post.filterMap (qqk k y (ofL y a1)) ++ exL a1 tl (k + 1), (fun w M ρ v h => qxp h), ?_, fun b => ?_⟩)
    ·rw [← hR, hq, List.filterMap_append, List.filterMap_cons, hex]; simp
    refine ist (st_g (gb := true) rfl rfl rfl (z6 _ _) (fun h => jk rfl rfl) rfl (qc ?_));refine ist (st rfl rfl (qdp rfl rfl rfl) rfl (qc ?_));refine qfu ?_;refine qab (!b) rfl (fun h4 => ?_) (fun h4 => ?_)
    ·refine ql1 ?_;exact h4
    ·have hb : b = true := by simpa using h4
     subst hb;refine qaa ?_;show (_, _) = (_, _);rw [List.filterMap_append]
     simp [hex]
  ·refine z4 [.p, .p] ?_;refine st rfl rfl (zn rfl rfl rfl (by (try dsimp only); unfold I64; omega)) rfl ?_;refine st rfl rfl (qk rfl rfl) rfl ?_;refine qc ?_;refine ⟨rfl, (k + 1, tl, pre0 ++ (qj8 y).filterMap (qqk k y (ofL y a1))), ⟨rfl, rfl, rfl, rfl, rfl, rfl, trivial⟩, rfl, rfl, ⟨hd, ?_⟩, ?_⟩
   ·show (_ ++ _) ++ exL a1 tl (k + 1) = _;rw [← hR]; simp
   ·simp
  ·intro pre;exact .inl rfl
 ·replace h1 : (decide (((k : Nat) : Int) < (List.length a0 : Int))) = false := h1;obtain rfl := z8 hd (decF h1);refine qft ?_;refine .inr ?_;rw [← hR]; simp [exL]
section
variable {α : Type} {E : Env} {l : Nat} {enc : α → Value} {xs : List α} {C : ItC E.P l enc xs} {Q : Exit → ASt → List α × Bool → Prop} {s : ASt} {p : List α × Bool}
def okY (oi oj : Oper) : Option Cls → Option Cls → Bool
 | some a, some b => okC oi oj a b
 | some .p, none => true
 | _, _ => false
theorem IStep.mono {ops : Array Oper} {o : Oper} {K K' : ASt → List α × Bool → Prop} {c : Option Cls} (hk : ∀ s p, K s p → K' s p) (h : IStep E l enc xs ops o K s p c) : IStep E l enc xs ops o K' s p c := by
 cases c with
 | some c =>
  obtain ⟨s', h1, h2⟩ := h;exact ⟨s', h1, hk _ _ h2⟩
 | none =>
  obtain ⟨hd, gb, hw, hf, ht⟩ := h;refine ⟨hd, gb, hw, fun e => hk _ _ (hf e), fun e => ?_⟩;obtain ⟨q1, q2, f, arg, ts, x, post, q3, q4, q5, q6, q7⟩ := ht e;exact ⟨q1, q2, f, arg, ts, x, post, q3, q4, q5, q6, fun b => hk _ _ (q7 b)⟩
variable {ops : Array Oper} {md : Region.Mode} {cl : Nat → Option Cls}
def iOp (E : Env) (l : Nat) (enc : α → Value) (xs : List α) (ops : Array Oper) (cl : Nat → Option Cls) (i : Nat) (K : ASt → List α × Bool → Prop) (s : ASt) (p : List α × Bool) : Prop :=
 match ops[i]? with
 | none => K s p
 | some o => IStep E l enc xs ops o K s p (cl i)
def anyI (E : Env) (l : Nat) (enc : α → Value) (xs : List α) (md : Region.Mode) (ops : Array Oper) (cl : Nat → Option Cls) (K : ASt → List α × Bool → Prop) : Nat → Array Bool → ASt → List α × Bool → Prop
 | 0, listed, s, p => Region.ready md ops listed = [] ∧ K s p
 | fuel + 1, listed, s, p => (Region.ready md ops listed = [] → K s p) ∧ ∀ i ∈ Region.ready md ops listed, iOp E l enc xs ops cl i (anyI E l enc xs md ops cl K fuel (listed.setIfInBounds i true)) s p
theorem anyI.sound (hmk : E.mks = false) (hbw : E.bow = []) : ∀ (fuel : Nat) (listed : Array Bool) (s : ASt) (p : List α × Bool), anyI E l enc xs md ops cl (Q .normal) fuel listed s p → ∀ a w, IRel E C s p a w →
  wpAnyIn E.F 0 E.P md ops (fun e a' w' => ∃ s' p', IRel E C s' p' a' w' ∧ Q e s' p') fuel listed a w
 | 0, _, s, p, h, a, w, ha => ⟨h.1, s, p, ha, h.2⟩
 | fuel + 1, _, s, p, h, a, w, ha => by
  refine ⟨fun h0 => ⟨s, p, ha, h.1 h0⟩, fun i hi => ?_⟩;have h1 := h.2 i hi;unfold iOp at h1;unfold wpOpIn
  split
  ·rename_i ho; simp only [ho] at h1; exact anyI.sound hmk hbw fuel _ s p h1 a w ha
  ·rename_i o ho
   simp only [ho] at h1;exact IStep.sound h1 hmk hbw ha fun s' p' a' w' h3 ha' => anyI.sound hmk hbw fuel _ s' p' h3 a' w' ha'
theorem qt9 {K : ASt → List α × Bool → Prop} {i : Nat} {oi : Oper} (hi : ops[i]? = some oi) : ∀ (fuel : Nat) (listed : Array Bool) (s : ASt) (p : List α × Bool),
  (∀ j oj, ops[j]? = some oj → j ≠ i → listed.getD j true = false → (∀ e ∈ oj.after, Region.binds md e = true → e.on ≠ i) → oi.apart ops oj = true ∧ okY oi oj (cl i) (cl j) = true) →
  i ∈ Region.ready md ops listed → IStep E l enc xs ops oi (anyI E l enc xs md ops cl K fuel (listed.setIfInBounds i true)) s p (cl i) → anyI E l enc xs md ops cl K (fuel + 1) listed s p := by
 intro fuel
 induction fuel with
 | zero =>
  intro listed s p hfree hr hy;refine ⟨fun h => (by rw [h] at hr; cases hr), fun j hj => ?_⟩
  by_cases hji : j = i
  ·subst hji; unfold iOp; simp only [hi]; exact hy
  ·exfalso
   have hj' := ready_mono hj hji
   -- at once another is ready: what follows would have to be empty
   cases hc : cl i with
   | none =>
    obtain ⟨hjun, oj, hoj, hall⟩ := mem_ready.1 hj
    have hnot : ∀ e ∈ oj.after, Region.binds md e = true → e.on ≠ i := fun e he hb heq => by
     have h1 := hall e he hb;have h0 := (mem_ready.1 hr).1;rw [heq] at h1
     rcases Nat.lt_or_ge i listed.size with h' | h'
     ·simp [h'] at h0 h1; rw [h0] at h1; cases h1
     ·simp [Array.getElem?_eq_none h'] at h1
    have := (hfree j oj hoj hji hjun hnot).2;rw [hc] at this
    cases hcj : cl j <;> rw [hcj] at this <;> simp [okY] at this
   | some ci =>
    rw [hc] at hy;obtain ⟨u, _, hu⟩ := hy;rw [hu.1] at hj'
    cases hj'
 | succ fuel ih =>
  intro listed s p hfree hr hy;refine ⟨fun h => (by rw [h] at hr; cases hr), fun j hj => ?_⟩
  by_cases hji : j = i
  ·subst hji; unfold iOp; simp only [hi]; exact hy
  ·obtain ⟨hjun, oj, hoj, hall⟩ := mem_ready.1 hj
   have hnot : ∀ e ∈ oj.after, Region.binds md e = true → e.on ≠ i := fun e he hb heq => by
    have h1 := hall e he hb;have h0 := (mem_ready.1 hr).1;rw [heq] at h1
    rcases Nat.lt_or_ge i listed.size with h' | h'
    ·simp [h'] at h0 h1; rw [h0] at h1; cases h1
    ·simp [Array.getElem?_eq_none h'] at h1
   obtain ⟨hap, hok⟩ := hfree j oj hoj hji hjun hnot
   have hfree' : ∀ k ok, ops[k]? = some ok → k ≠ i → (listed.setIfInBounds j true).getD k true = false → (∀ e ∈ ok.after, Region.binds md e = true → e.on ≠ i) → oi.apart ops ok = true ∧ okY oi ok (cl i) (cl k) = true := fun k ok hk hki hun hno => by
    refine hfree k ok hk hki ?_ hno
    by_cases hjk : j = k
    ·subst hjk; exact hjun
    ·rw [getD_set_ne true hjk] at hun; exact hun
   cases hc : cl i with
   | none =>
    rw [hc] at hok
    cases hcj : cl j <;> rw [hcj] at hok <;> simp [okY] at hok
   | some ci =>
    rw [hc] at hy hok;obtain ⟨u, hy1, hy2⟩ := hy;have h1 := hy2.2 j (ready_mono hj hji);unfold iOp at h1 ⊢;simp only [hoj] at h1 ⊢;rw [Array.setIfInBounds_comm _ _ (Ne.symm hji)] at h1
    cases hcj : cl j with
    | some cj =>
     rw [hcj] at h1 hok;obtain ⟨t, h2, h3⟩ := h1;obtain ⟨s2, h4, h5⟩ := AStep.swap hap hok hy1 h2;refine ⟨s2, h4, ih (listed.setIfInBounds j true) s2 p hfree' (ready_mono hr (Ne.symm hji)) ?_⟩;rw [hc];exact ⟨t, h5, h3⟩
    | none =>
     rw [hcj] at h1 hok
     have hcp : ci = .p := by cases ci <;> simp [okY] at hok <;> rfl
     subst hcp;obtain ⟨a1, a2, a3⟩ := Oper.apart_spec hap;obtain ⟨i0, gi, ri, mi, i1, i2, i3, i4, rfl⟩ := hy1.parts ⟨by simp, by simp⟩;obtain rfl : mi = s.mem := i4 (.inl rfl);obtain ⟨j0, gj, hw, hf, ht⟩ := h1;have hev : ∀ x ∈ oj.op.operands, (⟨s.n, updO oi.dst ri s.tmps, s.mem⟩ : ASt).eval E x = s.eval E x := ju a1;have key : ∀ v p', anyI E l enc xs md ops cl K fuel ((listed.setIfInBounds j true).setIfInBounds i true) ((⟨s.n, updO oi.dst ri s.tmps, s.mem⟩ : ASt).put oj.dst v) p' →
       anyI E l enc xs md ops cl K (fuel + 1) (listed.setIfInBounds j true) (s.put oj.dst v) p' := fun v p' hk => by
      refine ih (listed.setIfInBounds j true) (s.put oj.dst v) p' hfree' (ready_mono hr (Ne.symm hji)) ?_;rw [hc];refine ⟨⟨s.n, updO oi.dst ri (updO oj.dst v s.tmps), s.mem⟩, ?_, ?_⟩
      ·exact AStep.ofParts (s := ⟨s.n, updO oj.dst v s.tmps, s.mem⟩) i0 ((jp a3).2 i1) (fun e => ((i2 e).anyMem (.inl rfl)).congr (fun x hx => ((ju a3) x hx).symm)) i3 (fun _ => rfl)
      ·rw [xl a2 ri v s.tmps];exact hk
     refine ⟨j0, gj, (jp a1).1 hw, fun e => key _ _ (hf e), fun e => ?_⟩;obtain ⟨q1, q2, f, arg, ts, x, post, q3, q4, q5, q6, q7⟩ := ht e;have e1 : (⟨s.n, updO oi.dst ri s.tmps, s.mem⟩ : ASt).eval E f = s.eval E f := hev f (by rw [q3]; simp [Op.operands, Call.operands]);have e2 : (⟨s.n, updO oi.dst ri s.tmps, s.mem⟩ : ASt).eval E arg = s.eval E arg := hev arg (by rw [q3]; simp [Op.operands, Call.operands]);rw [e1] at q4;rw [e2] at q5;exact ⟨q1, q2, f, arg, ts, x, post, q3, q4, q5, q6, fun b => key _ _ (q7 b)⟩
def q3v (md : Region.Mode) (ops : Array Oper) (cl : Nat → Option Cls) (listed : Array Bool) (i : Nat) : Bool :=
 match ops[i]? with
 | none => false
 | some oi => (List.range ops.size).all fun j => j == i || listed.getD j true || match ops[j]? with
   | some oj => oj.after.any (fun e => Region.binds md e && e.on == i) || (oi.apart ops oj && okY oi oj (cl i) (cl j))
   | none => true
theorem qua {i : Nat} {oi : Oper} {listed : Array Bool} (hi : ops[i]? = some oi) (h : q3v md ops cl listed i = true) (j : Nat) (oj : Oper)
  (hj : ops[j]? = some oj) (hne : j ≠ i) (hun : listed.getD j true = false) (hno : ∀ e ∈ oj.after, Region.binds md e = true → e.on ≠ i) :
  oi.apart ops oj = true ∧ okY oi oj (cl i) (cl j) = true := by
 simp only [q3v, hi, List.all_eq_true, List.mem_range] at h;have h1 := h j (Array.getElem?_eq_some_iff.1 hj).1;simp only [hj, Bool.or_eq_true, beq_iff_eq, hne, false_or, hun, Bool.false_eq_true, Bool.and_eq_true] at h1
 rcases h1 with h1 | h1
 ·obtain ⟨e, he, hb⟩ := Array.any_eq_true'.1 h1;simp only [Bool.and_eq_true, beq_iff_eq] at hb;exact absurd hb.2 (hno e he hb.1)
 ·exact h1
def lexY (md : Region.Mode) (ops : Array Oper) (cl : Nat → Option Cls) : Nat → Nat → Array Bool → Bool
 | 0, _, listed => (Region.ready md ops listed).isEmpty
 | fuel + 1, k, listed => (Region.ready md ops listed).contains k && (q3v md ops cl listed k || (Region.ready md ops listed).all fun j => j == k) && lexY md ops cl fuel (k + 1) (listed.setIfInBounds k true)
theorem qsh {K : ASt → List α × Bool → Prop} : ∀ (lo : List Oper) (cs : List (Option Cls)) (k : Nat) (listed : Array Bool) (s : ASt) (p : List α × Bool), (∀ j, lo[j]? = ops[k + j]?) → (∀ j c, cs[j]? = some c → cl (k + j) = c) →
  lexY md ops cl lo.length k listed = true → IOps E l enc xs ops K lo cs s p → anyI E l enc xs md ops cl K lo.length listed s p
 | [], [], _, _, _, _, _, _, hB, h => ⟨by simpa [lexY] using hB, h⟩
 | o :: lo, c :: cs, k, listed, s, p, hl, hc, hB, h => by
  have h0 : ops[k]? = some o := by simpa using (hl 0).symm
  have hc0 : cl k = c := by simpa using hc 0 c (by simp)
  simp only [List.length_cons, lexY, Bool.and_eq_true] at hB;obtain ⟨⟨hr, hf⟩, hB'⟩ := hB;subst hc0
  have hr : k ∈ Region.ready md ops listed := by simpa using hr
  have hx := IStep.mono (fun s' p' h2 => qsh lo cs (k + 1) _ s' p' (fun j => by have := hl (j + 1); simpa [Nat.add_assoc, Nat.add_comm 1 j] using this)
    (fun j c hj => by have := hc (j + 1) c (by simpa using hj); simpa [Nat.add_assoc, Nat.add_comm 1 j] using this) hB' h2) h
  rw [Bool.or_eq_true] at hf
  rcases hf with hf | hf
  ·exact qt9 h0 lo.length listed s p (qua h0 hf) hr hx
  ·refine ⟨fun h => (by rw [h] at hr; cases hr), fun j hj => ?_⟩;have := List.all_eq_true.1 hf j hj
   obtain rfl : j = k := by simpa using this
   unfold iOp;simp only [h0];exact hx
 | [], _ :: _, _, _, _, _, _, _, _, h => h.elim
 | _ :: _, [], _, _, _, _, _, _, _, h => h.elim
theorem IRel.draw {a : Act} {w : World} (h : IRel E C s p a w) : IRel E C s p a { w with drawn := w.drawn + 1 } := by
 obtain ⟨N, W1, k1, k2, k3, k4, k5, k6⟩ := h;exact ⟨N, W1, k1, k2, k3, k4, k5.draw, k6⟩
def q1j (ops : Array Oper) (cs : List (Option Cls)) : Bool := lexY .any ops (fun i => cs.getD i none) ops.size 0 (Array.replicate ops.size false)
theorem qz4 {id : Nat} (cs : List (Option Cls)) (hB : q1j ops cs = true) (h : IOps E l enc xs ops (Q .normal) ops.toList cs s p) (hmk : E.mks = false := by rfl) (hbw : E.bow = [] := by rfl) : IWp E C (.region id ops true) Q s p := by
 intro a w ha;refine wpIn_region_any E.orders ?_;have h1 := qsh (md := .any) (cl := fun i => cs.getD i none) ops.toList cs 0 (Array.replicate ops.size false) s p (by simp) (fun j c hj => by simp [hj]) (by simpa [q1j] using hB) h;have h2 := anyI.sound (C := C) (Q := Q) hmk hbw _ _ s p h1 a _ ha.draw
 simpa using h2
end
end Go.Sim
set_option maxRecDepth 10000
namespace Go.Sim
open Go.Proofs
def qub (i : Nat) (l : S2062) (own : List Int) (m : S1079) (b : Int) : Option S2068 := bif decide (b ≤ m.Moment) && decide (m.Moment < b + l.Length) then some ⟨(i : Nat), b, cntI own b l.Length⟩ else none
def dsL (m : S1079) : List Int := [m.Moment / 1440 - 1, m.Moment / 1440]
def arW (ms : List S1079) (m : S1079) (i : Nat) (l : S2062) (n : Nat) : List S2068 := ((dsL m).take n).flatMap fun d => (begL l d).filterMap (qub i l (ofL l ms) m)
def arL (ms : List S1079) (m : S1079) : List S2062 → Nat → List S2068
 | [], _ => []
 | l :: t, i => (bif qbm l m.Kind m.Terminal then arW ms m i l 2 else []) ++ arL ms m t (i + 1)
theorem q63 : Tryz.prog.underlying 174 = some (.array 2 3) := by kernel_rfl
theorem q97 : vu Tryz.prog 174 = some [.int .i64 0, .int .i64 0] := by kernel_rfl
theorem qsi (ms : List S1079) (m : S1079) (i : Nat) (l : S2062) {n : Nat} {d : Int} (h : (dsL m)[n]? = some d) : arW ms m i l (n + 1) = arW ms m i l n ++ (begL l d).filterMap (qub i l (ofL l ms) m) := by
 unfold arW;rw [List.take_add_one, h, List.flatMap_append]; simp
theorem q3w (ms : List S1079) (m : S1079) (i : Nat) (l : S2062) {n : Nat} (h : n ≤ 2) : ∃ post, arW ms m i l 2 = arW ms m i l n ++ post := by
 unfold arW;refine ⟨((dsL m).drop n).flatMap fun d => (begL l d).filterMap (qub i l (ofL l ms) m), ?_⟩;rw [← List.flatMap_append, List.take_append_drop]; rfl
theorem quc {g : GL} (a0 : List S2062) (a1 : List S1079) (m : S1079) (hl0 : a0.length ≤ 1000) (hl : ∀ x ∈ a0, LimOk x) (hm : MsOk a1) (hm0 : 0 ≤ m.Moment) (hm1 : m.Moment ≤ 143999999) :
  SeqN (EG g) 101 [G.ref [G.sl 11 (List.map S2062.c a0)], G.ref (S1079.c m), G.ref [G.sl 7 (List.map S1079.c a1)]] winE (arL a1 m a0 0) := by
 refine qdk Tryz.func101 rfl rfl rfl fun l C => ?_;refine js ?_;refine z4 [.p] ?_;refine st rfl rfl (zi rfl rfl) rfl ?_;refine qc ?_;refine js ?_;refine z4 [.p, .p, .p] ?_;refine st rfl rfl (qg rfl q61 rfl) rfl ?_;refine st rfl rfl (za (f := S2062.c) (l := a0) rfl Tryz.underlying22 rfl) rfl ?_;refine st rfl rfl (qk rfl rfl) rfl ?_;refine qc ?_;refine vr ?_;refine qdj (γ := Nat × List S2062 × List S2068) (fun g => [(1, .g (G.ref [G.sl 11 (List.map S2062.c a0)])), (2, .g (G.ref (S1079.c m))), (3, .g (G.ref [G.sl 7 (List.map S1079.c a1)])), (4, .g (G.ref [G.lit (.func (.yield l) #[] #[])])), (11, .g (G.sl 11 (List.map S2062.c a0))), (12, .g (G.int (List.length a0 : Int))), (13, .g (G.int ((g.1 : Nat) : Int)))])
  (fun g => (g.2.2, false)) (fun g => a0.drop g.1 = g.2.1 ∧ g.2.2 ++ arL a1 m g.2.1 g.1 = arL a1 m a0 0) (fun g => List.length g.2.1) ⟨rfl, (0, a0, []), ⟨rfl, rfl, rfl, rfl, rfl, rfl, rfl, trivial⟩, rfl, rfl, ⟨rfl, rfl⟩, trivial⟩ ?_
 rintro ⟨k, tl, pre0⟩ ⟨hd, hR⟩;replace hd : a0.drop k = tl := hd;replace hR : pre0 ++ arL a1 m tl k = arL a1 m a0 0 := hR;refine js ?_;refine z4 [.p] ?_;refine st rfl rfl (zg rfl rfl rfl) rfl ?_;refine qc ?_;refine js ?_;refine qab _ rfl (fun h1 => ?_) (fun h1 => ?_)
 ·replace h1 : (decide (((k : Nat) : Int) < (List.length a0 : Int))) = true := h1;obtain ⟨y, tl, rfl, hx1, hd⟩ := zq hd (decT h1);replace h1 := decT h1;have hy : LimOk y := hl y (List.mem_of_getElem? hx1);rw [arL] at hR;have hlen := hm.len
  have hln : (List.length a0 : Int) ≤ 1000 := by have := hl0; omega
  refine qaa ?_;refine js ?_;refine vr ?_;refine js ?_;refine z4 [.p, .p, .p, .w, .w, .w, .w] ?_;refine st rfl rfl (qk rfl rfl) rfl ?_;refine st rfl rfl (jd (f := S2062.c) (l := a0) (a := y) rfl Tryz.underlying22 kz rfl rfl (Int.natCast_nonneg _) hx1) rfl ?_;refine st rfl rfl (qp rfl kz rfl rfl rfl) rfl ?_;refine st_w rfl rfl (zc 5 rfl z3 rfl rfl) rfl ?_;refine st_w rfl rfl (zc 6 rfl kz63 rfl rfl) rfl ?_;refine jb rfl rfl (qu (tv := .g (G.int ((k : Nat) : Int))) rfl ty3 rfl rfl rfl rfl rfl) ?_;refine jb rfl rfl (qu (tv := .g (G.agg (limG y))) rfl kz rfl rfl rfl rfl rfl) ?_;refine qc ?_;refine qcm (l1 := [(1, .g (G.ref [G.sl 11 (List.map S2062.c a0)])), (2, .g (G.ref (S1079.c m))), (3, .g (G.ref [G.sl 7 (List.map S1079.c a1)])), (4, .g (G.ref [G.lit (.func (.yield l) #[] #[])])), (5, .g (G.ref [G.int ((k : Nat) : Int)])), (6, .ptr 6 0), (11, .g (G.sl 11 (List.map S2062.c a0))), (12, .g (G.int (List.length a0 : Int))), (13, .g (G.int ((k : Nat) : Int)))]) (m := [(6, .box [.g (G.str y.Name), .g (G.str y.Kind), .g (G.str y.Terminal), .g (G.int y.Length), .g (G.int y.Step), .g (G.int y.fFrom), .g (G.int y.fTo), .g (G.int y.Period.fFrom), .g (G.int y.Period.fTo), .g (G.int y.Period.Days), .g (G.int y.Most)])]) 5 rfl ⟨.inl ⟨rfl, rfl⟩, .inl ⟨rfl, rfl⟩, .inl ⟨rfl, rfl⟩, .inl ⟨rfl, rfl⟩, .inr (qc5 rfl), .inl ⟨rfl, rfl⟩, .inl ⟨rfl, rfl⟩, .inl ⟨rfl, rfl⟩, .inl ⟨rfl, rfl⟩, trivial⟩ ⟨rfl, trivial⟩ rfl rfl ?_;refine qcm (l1 := [(1, .g (G.ref [G.sl 11 (List.map S2062.c a0)])), (2, .g (G.ref (S1079.c m))), (3, .g (G.ref [G.sl 7 (List.map S1079.c a1)])), (4, .g (G.ref [G.lit (.func (.yield l) #[] #[])])), (5, .g (G.ref [G.int ((k : Nat) : Int)])), (6, .g (G.ref (limG y))), (11, .g (G.sl 11 (List.map S2062.c a0))), (12, .g (G.int (List.length a0 : Int))), (13, .g (G.int ((k : Nat) : Int)))]) (m := []) 6 rfl ⟨.inl ⟨rfl, rfl⟩, .inl ⟨rfl, rfl⟩, .inl ⟨rfl, rfl⟩, .inl ⟨rfl, rfl⟩, .inl ⟨rfl, rfl⟩, .inr (qc5 rfl), .inl ⟨rfl, rfl⟩, .inl ⟨rfl, rfl⟩, .inl ⟨rfl, rfl⟩, trivial⟩ trivial rfl rfl ?_;refine js ?_;refine js ?_;refine z4 [.p, .p, .p, .p, .p, .p, .p] ?_;refine st rfl rfl (qp rfl kz rfl rfl rfl) rfl ?_;refine st rfl rfl (qd rfl qe1 rfl) rfl ?_;refine st rfl rfl (qg rfl ty9 rfl) rfl ?_;refine st rfl rfl (qd rfl qjk rfl) rfl ?_;refine st rfl rfl (qg rfl ty9 rfl) rfl ?_;refine st rfl rfl (qf rfl q3u rfl (q22 y m.Kind m.Terminal hy.k) (qe rfl (qe rfl (qe rfl qj)))) rfl ?_;refine st rfl rfl (jk rfl rfl) rfl ?_;refine qc ?_;refine qab _ rfl (fun h2 => ?_) (fun h2 => ?_)
  ·have h2 : qbm y m.Kind m.Terminal = false := by simpa using h2
   rw [h2] at hR;refine qft ?_;refine z4 [.p, .p] ?_;refine st rfl rfl (zn rfl rfl rfl (by (try dsimp only); unfold I64; omega)) rfl ?_;refine st rfl rfl (qk rfl rfl) rfl ?_;refine qc ?_;refine ⟨rfl, (k + 1, tl, pre0), ⟨rfl, rfl, rfl, rfl, rfl, rfl, rfl, trivial⟩, rfl, rfl, ⟨hd, ?_⟩, ?_⟩
   ·simpa using hR
   ·simp
  ·have h2 : qbm y m.Kind m.Terminal = true := by simpa using h2
   rw [h2] at hR;replace hR : pre0 ++ (arW a1 m k y 2 ++ arL a1 m tl (k + 1)) = arL a1 m a0 0 := hR;refine qaa ?_;refine js ?_;refine z4 [.p, .p, .p, .w, .w] ?_;refine st rfl rfl (qp rfl kz rfl rfl rfl) rfl ?_;refine st rfl rfl (qg rfl q62 rfl) rfl ?_;refine st rfl rfl (qf rfl kE61 rfl (q3t y a1 hy.k hm.sz hm.len) (qe rfl (qe rfl qj))) rfl ?_;refine st_w rfl rfl (zc 7 rfl q60 rfl rfl) rfl ?_;refine jb rfl rfl (qu (tv := .g (G.sl 1 (List.map cInt (ofL y a1)))) rfl qsg rfl rfl rfl rfl rfl) ?_;refine qc ?_;refine qcm (l1 := [(1, .g (G.ref [G.sl 11 (List.map S2062.c a0)])), (2, .g (G.ref (S1079.c m))), (3, .g (G.ref [G.sl 7 (List.map S1079.c a1)])), (4, .g (G.ref [G.lit (.func (.yield l) #[] #[])])), (5, .g (G.ref [G.int ((k : Nat) : Int)])), (6, .g (G.ref (limG y))), (7, .g (G.ref [G.sl 1 (List.map cInt (ofL y a1))])), (11, .g (G.sl 11 (List.map S2062.c a0))), (12, .g (G.int (List.length a0 : Int))), (13, .g (G.int ((k : Nat) : Int)))]) (m := []) 7 rfl ⟨.inl ⟨rfl, rfl⟩, .inl ⟨rfl, rfl⟩, .inl ⟨rfl, rfl⟩, .inl ⟨rfl, rfl⟩, .inl ⟨rfl, rfl⟩, .inl ⟨rfl, rfl⟩, .inr (qc5 rfl), .inl ⟨rfl, rfl⟩, .inl ⟨rfl, rfl⟩, .inl ⟨rfl, rfl⟩, trivial⟩ trivial rfl rfl ?_;refine js ?_;refine z4 [.p, .p, .p, .p, .p, .p, .p, .p, .p] ?_;refine st rfl rfl (qd rfl qba rfl) rfl ?_;refine st rfl rfl (qg rfl ty3 rfl) rfl ?_;refine st rfl rfl (qul rfl rfl rfl hm0 (by decide) (by unfold I64; omega)) rfl ?_;refine st rfl rfl (vc rfl rfl rfl (by (try dsimp only); unfold I64; omega)) rfl ?_;refine st rfl rfl (qd rfl qba rfl) rfl ?_;refine st rfl rfl (qg rfl ty3 rfl) rfl ?_;refine st rfl rfl (qul rfl rfl rfl hm0 (by decide) (by unfold I64; omega)) rfl ?_;refine st rfl rfl (qhh rfl q97 rfl q63 ty3 (zz rfl (zz rfl kx)) rfl) rfl ?_;refine st rfl rfl (qk rfl rfl) rfl ?_;refine qc ?_;refine vr ?_;refine qdj (γ := Nat) (fun n => [(1, .g (G.ref [G.sl 11 (List.map S2062.c a0)])), (2, .g (G.ref (S1079.c m))), (3, .g (G.ref [G.sl 7 (List.map S1079.c a1)])), (4, .g (G.ref [G.lit (.func (.yield l) #[] #[])])), (5, .g (G.ref [G.int ((k : Nat) : Int)])), (6, .g (G.ref (limG y))), (7, .g (G.ref [G.sl 1 (List.map cInt (ofL y a1))])), (11, .g (G.sl 11 (List.map S2062.c a0))), (12, .g (G.int (List.length a0 : Int))), (13, .g (G.int ((k : Nat) : Int))), (35, .g (G.agg [G.int (m.Moment / 1440 - 1), G.int (m.Moment / 1440)])), (36, .g (G.int ((n : Nat) : Int)))])
    (fun n => (pre0 ++ arW a1 m k y n, false)) (fun n => n ≤ 2) (fun n => 2 - n) ⟨rfl, 0, ⟨rfl, rfl, rfl, rfl, rfl, rfl, rfl, rfl, rfl, rfl, rfl, rfl, trivial⟩, rfl, by simp [arW], Nat.zero_le _, trivial⟩ ?_
   intro n hn;refine js ?_;refine z4 [.p] ?_;refine st rfl rfl (zg rfl rfl rfl) rfl ?_;refine qc ?_;refine js ?_;refine qab _ rfl (fun h3 => ?_) (fun h3 => ?_)
   ·replace h3 : (decide (((n : Nat) : Int) < 2)) = true := h3;replace h3 := decT h3
    obtain ⟨d, hd1, hd2⟩ : ∃ d, (dsL m)[n]? = some d ∧ ([G.int (m.Moment / 1440 - 1), G.int (m.Moment / 1440)] : List G)[((n : Nat) : Int).toNat]? = some (G.int d) := by
     have : n = 0 ∨ n = 1 := by omega
     rcases this with rfl | rfl
     ·exact ⟨_, rfl, rfl⟩
     ·exact ⟨_, rfl, rfl⟩
    obtain ⟨post0, hpost⟩ := q3w a1 m k y (n := n + 1) (by omega);rw [qsi a1 m k y hd1] at hpost;refine qaa ?_;refine js ?_;refine vr ?_;refine js ?_;refine z4 [.p, .p] ?_;refine st rfl rfl (qv1 rfl q63 ty3 rfl rfl (Int.natCast_nonneg _) (by omega) hd2) rfl ?_;refine st rfl rfl (zr rfl rfl) rfl ?_;refine qc ?_;refine js ?_;refine z4 [.p, .p, .p] ?_;refine st rfl rfl (qp rfl kz rfl rfl rfl) rfl ?_;refine st rfl rfl (qk rfl rfl) rfl ?_;refine st rfl rfl (qf rfl kB60 rfl (q3q y d) (qe rfl (qe rfl qj))) rfl ?_;refine qc ?_;refine vr ?_;refine qk2 (begL y d) [(1, .g (G.ref [G.sl 11 (List.map S2062.c a0)])), (2, .g (G.ref (S1079.c m))), (3, .g (G.ref [G.sl 7 (List.map S1079.c a1)])), (4, .g (G.ref [G.lit (.func (.yield l) #[] #[])])), (5, .g (G.ref [G.int ((k : Nat) : Int)])), (6, .g (G.ref (limG y))), (7, .g (G.ref [G.sl 1 (List.map cInt (ofL y a1))])), (11, .g (G.sl 11 (List.map S2062.c a0))), (12, .g (G.int (List.length a0 : Int))), (13, .g (G.int ((k : Nat) : Int))), (35, .g (G.agg [G.int (m.Moment / 1440 - 1), G.int (m.Moment / 1440)])), (36, .g (G.int ((n : Nat) : Int))), (41, .g (G.fn (.func 122) [] [G.ref [G.int d], G.ref (limG y)]))]
     (fun q => (pre0 ++ arW a1 m k y n) ++ q.filterMap (qub k y (ofL y a1) m)) G.int (fun t z => updO (some 10) (.g (G.int z)) (upd 42 (.g (G.int z)) t)) rfl ⟨rfl, rfl, rfl, rfl, rfl, rfl, rfl, rfl, rfl, rfl, rfl, rfl, rfl, trivial⟩ rfl (by simp) q6v rfl rfl
     (qie y d (by have := hy.s0; omega)) (fun _ _ _ => rfl) ?_ ?_ ?_ ?_
    ·intro z pre lp C';refine z4 [.p] ?_;refine st rfl rfl (zr rfl rfl) rfl ?_;refine qc ?_;exact ⟨rfl, rfl, rfl⟩
    ·intro q z post hq lp C';have hz := qf8 hy (d := d) (b := z) (by rw [hq]; simp);have hp0 := hy.p0;have hp1 := hy.p1;have hl0' := hy.l0;have hl1' := hy.l1;refine vr ?_;refine js ?_;refine qz4 [some .p, some .p, some .p, some .p, some .p, some .p, some .p, some .p, some .p, some .p, some .p, some .p, some .p, some .p, some .p, some .p, some .p, some .p, some .p, some .p, some .p, some .p, some .p, none, some .p, some .p] (by kernel_rfl) ?_;refine ist (st rfl rfl (qk rfl rfl) rfl (qc ?_));refine ist (st rfl rfl (qd rfl qba rfl) rfl (qc ?_));refine ist (st rfl rfl (qg rfl ty3 rfl) rfl (qc ?_));refine ist (st rfl rfl (vp rfl rfl rfl) rfl (qc ?_));refine ist (st rfl rfl (qk rfl rfl) rfl (qc ?_));refine ist (st_g rfl rfl rfl (z6 _ _) (fun h => qd rfl qba rfl) rfl (qc ?_));refine ist (st_g rfl rfl rfl (z6 _ _) (fun h => qg rfl ty3 (gd h rfl)) rfl (qc ?_));refine ist (st_g rfl rfl rfl (z6 _ _) (fun h => qk rfl rfl) rfl (qc ?_));refine ist (st_g rfl rfl rfl (z6 _ _) (fun h => qd rfl qe2 rfl) rfl (qc ?_));refine ist (st_g rfl rfl rfl (z6 _ _) (fun h => qg rfl ty3 (gd h rfl)) rfl (qc ?_));refine ist (st_g rfl rfl rfl (z6 _ _) (fun h => zn rfl (gd h rfl) (gd h rfl) (by (try dsimp only); unfold I64; omega)) rfl (qc ?_));refine ist (st_g rfl rfl rfl (z6 _ _) (fun h => zg rfl (gd h rfl) (gd h rfl)) rfl (qc ?_));refine ist (st rfl rfl (zx rfl rfl rfl rfl) rfl (qc ?_));refine ist (st rfl rfl (qk rfl rfl) rfl (qc ?_));have hex : qub k y (ofL y a1) m z = bif decide (z ≤ m.Moment) && decide (m.Moment < z + y.Length) then some ⟨(k : Nat), z, cntI (ofL y a1) z y.Length⟩ else none := rfl
     revert hex
     generalize (decide (z ≤ m.Moment) && decide (m.Moment < z + y.Length)) = c;intro hex;refine ist (st_g rfl rfl rfl (z6 _ _) (fun h => qg rfl q1h rfl) rfl (qc ?_));refine ist (st_g rfl rfl rfl (z6 _ _) (fun h => qg rfl ty3 rfl) rfl (qc ?_));refine ist (st_g rfl rfl rfl (z6 _ _) (fun h => qk rfl rfl) rfl (qc ?_));refine ist (st_g rfl rfl rfl (z6 _ _) (fun h => qg rfl qsg rfl) rfl (qc ?_));refine ist (st_g rfl rfl rfl (z6 _ _) (fun h => qk rfl rfl) rfl (qc ?_));refine ist (st_g rfl rfl rfl (z6 _ _) (fun h => qd rfl qe2 rfl) rfl (qc ?_));refine ist (st_g rfl rfl rfl (z6 _ _) (fun h => qg rfl ty3 (gd h rfl)) rfl (qc ?_));refine ist (st_g rfl rfl rfl (z6 _ _) (fun h => qf rfl kE62 rfl (q23 (ofL y a1) z y.Length (qig hm y) (qn1 (qif hm y) (qig hm y) (by omega) (by omega) (by omega) hl1')) (qe (gd h rfl) (qe (gd h rfl) (qe (gd h rfl) qj)))) rfl (qc ?_));refine ist (st_g rfl rfl rfl (z6 _ _) (fun h => jg rfl qhb rfl q6z (zz (gd h rfl) (zz (gd h rfl) (zz (gd h rfl) kx))) rfl) rfl (qc ?_))
     cases c with
     | false =>
      refine iy_g false rfl rfl rfl (z6 _ _) rfl rfl (fun _ => ?_) (fun h => by cases h);refine ist (st_g (gb := false) (r := .g (G.bool false)) rfl rfl rfl (z6 _ _) (fun h => by cases h) rfl (qc ?_));refine ist (st rfl rfl (qdp rfl rfl rfl) rfl (qc ?_));refine qfu ?_;refine qab false rfl (fun h4 => by cases h4) (fun h4 => ?_);refine qaa ?_;show (_, _) = (_, _);rw [List.filterMap_append]
      simp [hex]
     | true =>
      refine iy_g true rfl rfl rfl (z6 _ _) rfl rfl (fun h => by cases h) (fun _ => ⟨rfl, rfl, ⟨(k : Nat), z, cntI (ofL y a1) z y.Length⟩, post.filterMap (qub k y (ofL y a1) m) ++ (post0 ++ arL a1 m tl (k + 1)), (fun w M ρ v h => qxp h), ?_, fun b => ?_⟩)
      ·rw [← hR, hpost, hq, List.filterMap_append, List.filterMap_cons, hex]; simp
      refine ist (st_g (gb := true) rfl rfl rfl (z6 _ _) (fun h => jk rfl rfl) rfl (qc ?_));refine ist (st rfl rfl (qdp rfl rfl rfl) rfl (qc ?_));refine qfu ?_;refine qab (!b) rfl (fun h4 => ?_) (fun h4 => ?_)
      ·refine ql1 ?_;exact h4
      ·have hb : b = true := by simpa using h4
       subst hb;refine qaa ?_;show (_, _) = (_, _);rw [List.filterMap_append]
       simp [hex]
    ·refine z4 [.p, .p] ?_;refine st rfl rfl (zn rfl rfl rfl (by (try dsimp only); unfold I64; omega)) rfl ?_;refine st rfl rfl (qk rfl rfl) rfl ?_;refine qc ?_;refine ⟨rfl, n + 1, ⟨rfl, rfl, rfl, rfl, rfl, rfl, rfl, rfl, rfl, rfl, rfl, rfl, trivial⟩, rfl, ?_, ?_, ?_⟩
     ·show _ = (pre0 ++ arW a1 m k y (n + 1), false);rw [qsi a1 m k y hd1, List.append_assoc]
     ·show n + 1 ≤ 2; omega
     ·show 2 - (n + 1) < 2 - n; omega
    ·intro pre;exact .inl rfl
   ·replace h3 : (decide (((n : Nat) : Int) < 2)) = false := h3;replace h3 := decF h3
    obtain rfl : n = 2 := by omega
    refine qft ?_;refine z4 [.p, .p] ?_;refine st rfl rfl (zn rfl rfl rfl (by (try dsimp only); unfold I64; omega)) rfl ?_;refine st rfl rfl (qk rfl rfl) rfl ?_;refine qc ?_;refine ⟨rfl, (k + 1, tl, pre0 ++ arW a1 m k y 2), ⟨rfl, rfl, rfl, rfl, rfl, rfl, rfl, trivial⟩, rfl, rfl, ⟨hd, ?_⟩, ?_⟩
    ·rw [← hR]; simp
    ·simp
 ·replace h1 : (decide (((k : Nat) : Int) < (List.length a0 : Int))) = false := h1;obtain rfl := z8 hd (decF h1);refine qft ?_;refine .inr ?_;rw [← hR]; simp [arL]
theorem qsj : ∀ {l : List Int} (k : Nat), wy l k = 0 ↔ ∀ x ∈ l, x = 0
 | [], k => by simp [wy]
 | y :: t, k => by
  rw [wy]
  by_cases h : y = 0
  ·subst h; simp [qsj (l := t) (k + 1)]
  ·simp [h]
theorem ko {l : List Int} : vx l = 0 ↔ ∀ x ∈ l, x = 0 := qsj 0
theorem xg {b : Bool} {e : Int} (he : e ≠ 0) : xa b e = 0 ↔ b = false := by
 unfold xa; cases b <;> simp [he]
theorem qdl {n lo hi : Int} : qbi n lo hi = 0 ↔ lo ≤ n ∧ n ≤ hi := by
 unfold qbi; rw [xg (by decide)]; simp
theorem qid {s : ByteArray} : qkr s = 0 ↔ s = (⟨#[]⟩ : ByteArray) ∨ s147 s = true := by
 unfold qkr; rw [xg (by decide)]
 by_cases h : s = (⟨#[]⟩ : ByteArray)
 ·simp [h]
 ·simp [h]
theorem ql5 {s : ByteArray} : qng s = 0 ↔ s = (⟨#[65]⟩ : ByteArray) ∨ s = (⟨#[68]⟩ : ByteArray) := by
 unfold qng; rw [xg (by decide)]
 by_cases h : s = (⟨#[65]⟩ : ByteArray)
 ·simp [h]
 ·simp [h]
theorem qxq {s : ByteArray} (h : s147 s = true) : s.size ≤ 24 := by
 unfold s147 at h
 cases hc : ((decide ((ByteArray.size s : Int) = 0)) || (decide (24 < (ByteArray.size s : Int)))) with
 | true => rw [hc] at h; cases h
 | false => simp at hc; omega
theorem qls {a : S2062} : qf5 a = 0 ↔ s147 a.Name = true ∧ mhas kindL a.Kind = true ∧ (a.Terminal = (⟨#[]⟩ : ByteArray) ∨ s147 a.Terminal = true) ∧ (1 ≤ a.Length ∧ a.Length ≤ 1440) ∧ (1 ≤ a.Step ∧ a.Step ≤ 1440) ∧ (0 ≤ a.fFrom ∧ a.fFrom ≤ 1439) ∧ (0 ≤ a.fTo ∧ a.fTo ≤ 1439) ∧ a.fFrom ≤ a.fTo ∧ s102 a.Period = 0 ∧ (0 ≤ a.Most ∧ a.Most ≤ 999999999) := by
 unfold qf5;rw [ko];simp only [List.mem_cons, List.not_mem_nil, or_false, forall_eq_or_imp, forall_eq, qdl, qid, xg (e := 8) (by decide), xg (e := 13) (by decide), xg (e := 11) (by decide), Bool.not_eq_false', decide_eq_false_iff_not, Int.not_lt]
theorem q64 {a : S2062} (h : qf5 a = 0) : LimOk a := by
 obtain ⟨_, h1, _, h2, h3, h4, h5, _, h6, h7⟩ := qls.1 h;have h8 := wv _ h6;refine ⟨?_, h3.1, h3.2, h2.1, h2.2, h4.1, h4.2, h5.1, h5.2, h8.1, by omega, h7.1, h7.2⟩;unfold mhas at h1;unfold vd
 cases hq : mget kindL a.Kind with
 | none => rw [hq] at h1; cases h1
 | some v =>
  have : a.Kind = (⟨#[65]⟩ : ByteArray) ∨ a.Kind = (⟨#[68]⟩ : ByteArray) ∨ a.Kind = (⟨#[84]⟩ : ByteArray) := by
   have := qnz hq;simp only [kindL, List.mem_cons, Prod.mk.injEq, List.not_mem_nil, or_false] at this
   rcases this with h | h | h
   ·exact .inl h.1
   ·exact .inr (.inl h.1)
   ·exact .inr (.inr h.1)
  have := qwl.2 this;unfold vd at this;rw [hq] at this;exact this
theorem qpt : ∀ {all t : List S2062} {k : Nat}, qa7 all t k = 0 → ∀ x ∈ t, qf5 x = 0
 | all, [], k, _, x, hx => by cases hx
 | all, y :: t, k, h, x, hx => by
  rw [qa7] at h
  by_cases hc : vx [(qf5 y), (xa (decide (0 ≤ (qj4 (List.take (Int.toNat ((k : Nat) : Int)) all) y.Name))) 9)] = 0
  ·rw [decide_eq_false (by simpa using hc), cond_false] at h
   rcases List.mem_cons.1 hx with rfl | hx
   ·exact ko.1 hc _ (by simp)
   ·exact qpt h x hx
  ·rw [decide_eq_true hc, cond_true] at h;exact absurd h hc
theorem qqn {a0 : List S2062} (h : wm a0 = 0) : a0.length ≤ 32 ∧ ∀ x ∈ a0, LimOk x := by
 unfold wm at h
 by_cases hc : 32 < (List.length a0 : Int)
 ·rw [decide_eq_true hc, cond_true] at h; cases h
 ·rw [decide_eq_false hc, cond_false] at h;exact ⟨by omega, fun x hx => q64 (qpt h x hx)⟩
structure MvOk (m : S1079) : Prop where
 m0 : 0 ≤ m.Moment
 m1 : m.Moment ≤ 143999999
 k : m.Kind = (⟨#[65]⟩ : ByteArray) ∨ m.Kind = (⟨#[68]⟩ : ByteArray)
 t : m.Terminal = (⟨#[]⟩ : ByteArray) ∨ s147 m.Terminal = true
 s0 : 0 ≤ m.Seats
 s1 : m.Seats ≤ 999
 z0 : 0 ≤ m.Size
 z1 : m.Size ≤ 9
 n0 : 0 ≤ m.Noise
 n1 : m.Noise ≤ 99
 nm : s147 m.Name = true
theorem ql6 {a b c : Int} : qnh a b c = 0 ↔ (0 ≤ a ∧ a ≤ 999) ∧ (0 ≤ b ∧ b ≤ 9) ∧ (0 ≤ c ∧ c ≤ 99) := by
 unfold qnh;rw [ko];simp only [List.mem_cons, List.not_mem_nil, or_false, forall_eq_or_imp, forall_eq, qdl]
theorem qxr {m : S1079} : qdi m = 0 ↔ MvOk m := by
 unfold qdi;rw [ko];simp only [List.mem_cons, List.not_mem_nil, or_false, forall_eq_or_imp, forall_eq, qdl, ql5, qid, ql6, xg (e := 8) (by decide), Bool.not_eq_false'];exact ⟨fun ⟨h1, h2, h3, ⟨h4, h5, h6⟩, h7⟩ => ⟨h1.1, h1.2, h2, h3, h4.1, h4.2, h5.1, h5.2, h6.1, h6.2, h7⟩, fun h => ⟨⟨h.m0, h.m1⟩, h.k, h.t, ⟨⟨h.s0, h.s1⟩, ⟨h.z0, h.z1⟩, ⟨h.n0, h.n1⟩⟩, h.nm⟩⟩
def ascM : Option Int → List S1079 → Prop
 | _, [] => True
 | p, y :: t => (∀ x, p = some x → x ≤ y.Moment) ∧ ascM (some y.Moment) t
theorem qsk : ∀ {t : List S1079} {x : Int}, ascM (some x) t → ∀ y ∈ t, x ≤ y.Moment
 | [], _, _, y, hy => by cases hy
 | z :: t, x, h, y, hy => by
  rcases List.mem_cons.1 hy with rfl | hy
  ·exact h.1 x rfl
  ·exact Int.le_trans (h.1 x rfl) (qsk h.2 y hy)
theorem qsl : ∀ {t : List S1079} {p : Option Int}, ascM p t → (t.map S1079.Moment).Pairwise (· ≤ ·)
 | [], _, _ => .nil
 | y :: t, p, h => by
  rw [List.map_cons, List.pairwise_cons]
  exact ⟨fun z hz => by
   obtain ⟨m, hm, rfl⟩ := List.mem_map.1 hz
   exact qsk h.2 m hm, qsl h.2⟩
theorem qsm : ∀ {t : List S1079} {p : Option Int}, (∀ x, p = some x → ∀ y ∈ t, x ≤ y.Moment) → (t.map S1079.Moment).Pairwise (· ≤ ·) → ascM p t
 | [], _, _, _ => trivial
 | y :: t, p, h, hs => by
  rw [List.map_cons, List.pairwise_cons] at hs;exact ⟨fun x hx => h x hx y List.mem_cons_self, qsm (fun x hx z hz => by cases hx; exact hs.1 _ (List.mem_map_of_mem hz)) hs.2⟩
theorem q1k : ∀ (t pre : List S1079), (pre ++ t).length ≤ 30000 → (wz (pre ++ t) t pre.length = some 0 ↔ (∀ m ∈ t, MvOk m) ∧ ascM (pre.getLast?.map S1079.Moment) t)
 | [], pre, _ => by simp [wz, ascM]
 | y :: t, pre, hl => by
  rw [wz];have ih := q1k t (pre ++ [y]) (by simpa using hl)
  have e1 : pre ++ [y] ++ t = pre ++ y :: t := by simp
  have e2 : (pre ++ [y]).length = pre.length + 1 := by simp
  have e3 : (pre ++ [y]).getLast? = some y := by simp
  rw [e1, e2, e3] at ih;have key : ∀ (y5 : S1079) (b : Bool), (b = true ↔ (0 < pre.length ∧ y.Moment < y5.Moment)) → (0 < pre.length → pre.getLast? = some y5) →
    ((bif decide ((vx [(qdi y), (xa b 11)]) ≠ 0) then some (vx [(qdi y), (xa b 11)]) else wz (pre ++ y :: t) t (pre.length + 1)) = some 0 ↔ (∀ m ∈ y :: t, MvOk m) ∧ ascM (pre.getLast?.map S1079.Moment) (y :: t)) := by
   intro y5 b hb hg
   have hz : vx [(qdi y), (xa b 11)] = 0 ↔ MvOk y ∧ b = false := by
    rw [ko];simp only [List.mem_cons, List.not_mem_nil, or_false, forall_eq_or_imp, forall_eq, qxr, xg (e := 11) (by decide)]
   have hasc : (∀ x, pre.getLast?.map S1079.Moment = some x → x ≤ y.Moment) ↔ b = false := by
    by_cases hp : 0 < pre.length
    ·rw [hg hp];simp only [Option.map_some, Option.some.injEq, forall_eq'];rw [← Bool.not_eq_true, hb]
     constructor
     ·intro h k; omega
     ·intro h; have := fun q => h ⟨hp, q⟩; omega
    ·have : pre = [] := by
      cases pre with
      | nil => rfl
      | cons => simp at hp
     subst this;rw [← Bool.not_eq_true, hb]
     simp
   by_cases hc : vx [(qdi y), (xa b 11)] = 0
   ·rw [decide_eq_false (by simpa using hc), cond_false, ih];obtain ⟨c1, c2⟩ := hz.1 hc;simp only [List.mem_cons, forall_eq_or_imp, ascM, hasc, c1, c2, true_and, Option.map_some]
   ·rw [decide_eq_true hc, cond_true]
    constructor
    ·intro h; exact absurd (Option.some.inj h) hc
    ·rintro ⟨h1, h2⟩;exact absurd (hz.2 ⟨h1 y List.mem_cons_self, hasc.1 h2.1⟩) hc
  by_cases hp : 0 < pre.length
  ·have hlen : pre.length ≤ 30000 := by simp at hl; omega
   have e : max 0 (IntKind.i64.wrap (((pre.length : Nat) : Int) - 1)) = ((pre.length - 1 : Nat) : Int) := by
    rw [wrap_i64 (by unfold I64; omega)]; omega
   rw [decide_eq_true (by omega : (0 : Int) < ((pre.length : Nat) : Int)), cond_true, e, qxm (by simp; omega), List.getElem_append_left (by omega : pre.length - 1 < pre.length)];simp only [zf, Bool.true_and];refine key (pre[pre.length - 1]'(by omega)) _ ?_ (fun _ => ?_)
   ·simp [hp]
   ·rw [List.getLast?_eq_getElem?, List.getElem?_eq_getElem (by omega)]
  ·have e0 : pre.length = 0 := by omega
   rw [decide_eq_false (by omega : ¬ (0 : Int) < ((pre.length : Nat) : Int)), cond_false];simp only [zf, Bool.false_and];exact key default false (by simp; omega) (fun h => absurd h hp)
theorem qf6 {l : List S1079} (hl : l.length ≤ 30000) : qbk l = some 0 ↔ (∀ m ∈ l, MvOk m) ∧ (l.map S1079.Moment).Pairwise (· ≤ ·) := by
 unfold qbk;rw [decide_eq_false (by omega), cond_false];have := q1k l [] (by simpa using hl);rw [show wz l l 0 = wz ([] ++ l) l ([] : List S1079).length from rfl, this]
 constructor
 ·rintro ⟨h1, h2⟩; exact ⟨h1, qsl h2⟩
 ·rintro ⟨h1, h2⟩; exact ⟨h1, qsm (fun x hx => by cases hx) h2⟩
theorem q98 {l : List S1079} (hl : l.length ≤ 1000) (h : qbk l = some 0) : MsOk l ∧ ∀ m ∈ l, MvOk m := by
 obtain ⟨h1, h2⟩ := (qf6 (by omega)).1 h;refine ⟨⟨hl, fun m hm => ?_, h2⟩, h1⟩;have := h1 m hm;refine ⟨?_, ?_⟩
 ·rcases this.k with h | h <;> rw [h] <;> decide
 ·rcases this.t with h | h
  ·rw [h]; decide
  ·have := qxq h; omega
end Go.Sim
set_option maxRecDepth 10000
namespace Go.Sim
open Go.Proofs
theorem q99 {g : GL} (a0 : List S2062) (a1 : List S1079) : Con (EG g) 53 [G.sl 11 (List.map S2062.c a0), G.sl 7 (List.map S1079.c a1)] (G.fn (.func 112) [] [G.ref [G.sl 11 (List.map S2062.c a0)], G.ref [G.sl 7 (List.map S1079.c a1)]]) := by
 refine qm Tryz.func53 rfl rfl fun w0 M0 => ?_;refine qb ?_;refine qa [.p, .p, .p] ?_;refine st rfl rfl (zi rfl rfl) rfl ?_;refine st rfl rfl (zi rfl rfl) rfl ?_;refine st rfl rfl (zr rfl rfl) rfl ?_;refine qc ?_;refine qb ?_;refine qa [.p, .p] ?_;refine st rfl rfl (ww rfl rfl rfl) rfl ?_;refine st rfl rfl (zr rfl rfl) rfl ?_;refine qc ?_;refine qo ?_;exact zb rfl (rv_g rfl)
theorem zaa {g : GL} (a0 : List S2062) (a1 : List S1079) (m : S1079) : Con (EG g) 47 [G.sl 11 (List.map S2062.c a0), G.sl 7 (List.map S1079.c a1), G.agg (S1079.c m)]
  (G.fn (.func 101) [] [G.ref [G.sl 11 (List.map S2062.c a0)], G.ref (S1079.c m), G.ref [G.sl 7 (List.map S1079.c a1)]]) := by
 refine qm Tryz.func47 rfl rfl fun w0 M0 => ?_;refine qb ?_;refine qa [.p, .p, .p, .p] ?_;refine st rfl rfl (zi rfl rfl) rfl ?_;refine st rfl rfl (zi rfl rfl) rfl ?_;refine st rfl rfl (zi rfl rfl) rfl ?_;refine st rfl rfl (zr rfl rfl) rfl ?_;refine qc ?_;refine qb ?_;refine qa [.p, .p] ?_;refine st rfl rfl (ww rfl rfl rfl) rfl ?_;refine st rfl rfl (zr rfl rfl) rfl ?_;refine qc ?_;refine qo ?_;exact zb rfl (rv_g rfl)
end Go.Sim
set_option maxRecDepth 10000
namespace Go.Sim
open Go.Proofs
def qi0 (a0 : List S2062) (a1 : List S1079) : Option Int :=
 zf (qbk a1) fun r1 => some (vx [(wm a0), r1])
theorem q3x {g : GL} (a0 : List S2062) (a1 : List S1079) {R : Int}   (hR : qi0 a0 a1 = some R) : Con (EG g) 41 [G.sl 11 (List.map S2062.c a0), G.sl 7 (List.map S1079.c a1)] (G.int R) := by
 unfold qi0 at hR;refine qm Tryz.func41 rfl rfl fun w0 M0 => ?_;refine zp (f := S2062.c) (l := a0) 0 rfl fun hla0 => ?_;refine zp (f := S1079.c) (l := a1) 1 rfl fun hla1 => ?_;refine qb ?_;refine qa [.p] ?_;refine sa rfl rfl ?_;refine qc ?_;refine qb ?_;obtain ⟨r1, br1, hR⟩ := qi hR;refine qa [.p, .p, .p, .p, .p, .p, .p] ?_;refine sm rfl rfl ?_;refine su (qf rfl q3y rfl (q24 a0) (qe rfl qj)) rfl ?_;refine sm rfl rfl ?_;refine su (qf rfl qxs rfl (qwm a1 br1) (qe rfl qj)) rfl ?_;refine su (qv rfl Tryz.underlying170 ty37 z37 rfl (qw rfl (qw rfl jo)) rfl (by simp []) (by decide)) rfl ?_;refine su (qf rfl qks rfl (qkq [(wm a0), r1]) (qe rfl qj)) rfl ?_;refine sa rfl rfl ?_;refine qc ?_;refine qo ?_;obtain rfl := Option.some.inj hR;exact zb rfl (rv_g rfl)
theorem q3z {a0 : List S2062} {a1 : List S1079} {r : Int} (h : qi0 a0 a1 = some r) : ∃ r1, qbk a1 = some r1 ∧ r = vx [wm a0, r1] := by
 unfold qi0 at h
 cases hq : qbk a1 with
 | none => rw [hq] at h; cases h
 | some r1 => rw [hq] at h; exact ⟨r1, rfl, (Option.some.inj h).symm⟩
theorem qq9 {a0 : List S2062} {a1 : List S1079} {r : Int} (hl : a1.length ≤ 1000) (h : qi0 a0 a1 = some r) (h1 : ¬ r ≠ 0) : a0.length ≤ 32 ∧ (∀ x ∈ a0, LimOk x) ∧ MsOk a1 ∧ ∀ m ∈ a1, MvOk m := by
 obtain ⟨r1, h2, rfl⟩ := q3z h;have h3 := ko.1 (Decidable.not_not.1 h1);obtain ⟨h4, h5⟩ := qqn (h3 (wm a0) (by simp));have h6 : r1 = 0 := h3 r1 (by simp);subst h6;obtain ⟨h7, h8⟩ := q98 hl h2;exact ⟨h4, h5, h7, h8⟩
theorem qz5 {a0 : List S2062} {a1 : List S1079} {a2 : S1079} {r : Int} (hl : a1.length ≤ 1000) (h : qi0 a0 a1 = some r) (h1 : ¬ vx [r, qdi a2] ≠ 0) : a0.length ≤ 32 ∧ (∀ x ∈ a0, LimOk x) ∧ MsOk a1 ∧ (∀ m ∈ a1, MvOk m) ∧ MvOk a2 := by
 have h3 := ko.1 (Decidable.not_not.1 h1);have h4 : r = 0 := h3 r (by simp);obtain ⟨h5, h6, h7, h8⟩ := qq9 hl h (by rw [h4]; simp);exact ⟨h5, h6, h7, h8, qxr.1 (h3 (qdi a2) (by simp))⟩
end Go.Sim
set_option maxRecDepth 10000
namespace Go.Sim
open Go.Proofs
def qfa  : List S2068 → Int → Int → Int → Int → Option (S2068 × Int)
 | [], x2, x3, x4, x5 => some ((S2068.mk 0 0 0), 7)
 | y6 :: t7, x2, x3, x4, x5 => some (y6, 0)
def qqm (a0 : List S2062) (a1 : List S1079) : Option (S2068 × Int) :=
 zf (qi0 a0 a1) fun r1 => (bif decide (r1 ≠ 0) then some ((S2068.mk 0 0 0), r1) else qfa (exL a1 a0 0) 0 0 0 0)
theorem q49 {g : GL} (a0 : List S2062) (a1 : List S1079) {R : S2068 × Int}  (hb : a1.length ≤ 1000) (hR : qqm a0 a1 = some R) : Con (EG g) 22 [G.sl 11 (List.map S2062.c a0), G.sl 7 (List.map S1079.c a1)] (G.tup [G.agg (S2068.c R.1), G.int R.2]) := by
 unfold qqm at hR;refine qez Tryz.func22 rfl rfl (qv4 (j6 (qv3 (j6 (kg _) (j6 (kg _) (j6 (kg _) qgl)))) (j6 (kg _) qgl))) fun w0 M0 => ?_;refine zp (f := S2062.c) (l := a0) 0 rfl fun hla0 => ?_;refine zp (f := S1079.c) (l := a1) 1 rfl fun hla1 => ?_;refine qb ?_;refine qa [.w, .w] ?_;refine sw (zc 4 rfl qhb rfl rfl) rfl ?_;refine sw (zc 5 rfl z37 rfl rfl) rfl ?_;refine qc ?_;refine qb ?_;refine qb ?_;obtain ⟨r1, br1, hR⟩ := qi hR;refine qa [.p, .p, .p, .p] ?_;refine sm rfl rfl ?_;refine sm rfl rfl ?_;refine su (qf rfl q30 rfl (q3x a0 a1 br1) (qe rfl (qe rfl qj))) rfl ?_;refine sa rfl rfl ?_;refine qc ?_;refine qb ?_;refine qa [.p, .p] ?_;refine sm rfl rfl ?_;refine su (zy rfl rfl rfl) rfl ?_;refine qc ?_;refine ql _ rfl (fun h1 => ?_) (fun h1 => ?_)
 ·replace h1 : (decide (r1 ≠ 0)) = true := h1;replace hR := zk hR h1;(try simp only [bB] at h1);refine qb ?_;refine qa [.p, .p, .w, .w] ?_;refine su (jg rfl qhb rfl qsn kx rfl) rfl ?_;refine sm rfl rfl ?_;refine jb rfl rfl (qu (tv := .g (G.agg [G.int 0, G.int 0, G.int 0])) rfl qbg rfl rfl rfl rfl rfl) ?_;refine jb rfl rfl (qu (tv := .g (G.int r1)) rfl ty37 rfl rfl rfl rfl rfl) ?_;refine qc ?_;refine qo ?_;obtain rfl := Option.some.inj hR;exact resN rfl ⟨xo rfl rfl qbg rfl rfl, qnn rfl rfl ty37 rfl, trivial⟩ (by simp)
 ·replace h1 : (decide (r1 ≠ 0)) = false := h1;replace hR := zl hR h1;(try simp only [bB] at h1);obtain ⟨hlen, hlim, hms, hmv⟩ := qq9 hb br1 h1;refine qn ?_;refine qb ?_;refine qb ?_;refine qa [.p, .p, .p] ?_;refine sm rfl rfl ?_;refine sm rfl rfl ?_;refine su (qf rfl zab rfl (q99 a0 a1) (qe rfl (qe rfl qj))) rfl ?_;refine qc ?_;refine qq ?_;refine qdm (α := S2068) (γ := Int × Int × Int × Int) (enc := winE) (l := [(4, .ptr 4 0), (5, .ptr 5 0), (17, .g (G.fn (.func 112) [] [G.ref [G.sl 11 (List.map S2062.c a0)], G.ref [G.sl 7 (List.map S1079.c a1)]]))]) (exL a1 a0 0) (fun g => [(4, .box [.g (G.int g.2.1), .g (G.int g.2.2.1), .g (G.int g.2.2.2)]), (5, .box [.g (G.int g.1)])]) (fun tl_ g => qfa tl_ g.1 g.2.1 g.2.2.1 g.2.2.2 = some R) (0, 0, 0, 0) (fun g y6 => (upd 7 (.ptr 7 0) (upd 18 (.g (winG y6)) (xx [(4, .ptr 4 0), (5, .ptr 5 0), (17, .g (G.fn (.func 112) [] [G.ref [G.sl 11 (List.map S2062.c a0)], G.ref [G.sl 7 (List.map S1079.c a1)]]))])), (7, .box [.g (G.int y6.Limit), .g (G.int y6.Begin), .g (G.int y6.Count)]) :: (7, .box [.g (G.int 0), .g (G.int 0), .g (G.int 0)]) :: [(4, .box [.g (G.int g.2.1), .g (G.int g.2.2.1), .g (G.int g.2.2.2)]), (5, .box [.g (G.int g.1)])])) rfl ⟨rfl, rfl, rfl, trivial⟩ ⟨rfl, rfl, trivial⟩ rfl rfl zac (qps a0 a1 (by omega) hlim hms) winG q1i (by exact hR) rfl (fun _ => rfl) (fun _ => rfl) ?_ (fun _ _ => rfl) ?_ ?_
  ·rintro y6 ⟨x2, x3, x4, x5⟩ lp_ w1_ M1_ x1_;refine qa [.w, .w] ?_;refine sw (zc 7 rfl qhb rfl rfl) rfl ?_;refine jb rfl rfl (qu (tv := .g (G.agg (S2068.c y6))) rfl qbg rfl rfl rfl rfl rfl) ?_;refine qc ?_;exact ⟨rfl, rfl⟩
  ·rintro y6 t7 ⟨x2, x3, x4, x5⟩ hx1 hR lp_ w1_ M1_ x1_;replace hR : qfa (y6 :: t7) x2 x3 x4 x5 = some R := hR;rw [qfa] at hR;(try dsimp only at hR);refine qq ?_;refine qb ?_;refine qa [.r, .w, .w] ?_;refine sr (zm rfl qbg rfl rfl rfl rfl) rfl ?_;refine jb rfl rfl (qu (tv := .g (G.agg (S2068.c y6))) rfl qbg rfl rfl rfl rfl rfl) ?_;refine jb rfl rfl (qu (tv := .g (G.int 0)) rfl ty37 rfl rfl rfl rfl rfl) ?_;refine qc ?_;refine qo ?_;refine ⟨[(4, .box [.g (G.int y6.Limit), .g (G.int y6.Begin), .g (G.int y6.Count)]), (5, .box [.g (G.int 0)])], ?_, rfl, rfl, ⟨rfl, rfl, trivial⟩⟩;refine qo ?_;obtain rfl := Option.some.inj hR;exact resN rfl ⟨xo rfl rfl qbg rfl rfl, qnn rfl rfl ty37 rfl, trivial⟩ (by simp)
  ·rintro ⟨x2, x3, x4, x5⟩ hR;replace hR : qfa [] x2 x3 x4 x5 = some R := hR;rw [qfa] at hR;(try dsimp only at hR);refine qb ?_;refine qa [.p, .w, .w] ?_;refine su (jg rfl qhb rfl qsn kx rfl) rfl ?_;refine jb rfl rfl (qu (tv := .g (G.agg [G.int 0, G.int 0, G.int 0])) rfl qbg rfl rfl rfl rfl rfl) ?_;refine jb rfl rfl (qu (tv := .g (G.int 7)) rfl ty37 rfl rfl rfl rfl rfl) ?_;refine qc ?_;refine qo ?_;obtain rfl := Option.some.inj hR;exact resN rfl ⟨xo rfl rfl qbg rfl rfl, qnn rfl rfl ty37 rfl, trivial⟩ (by simp)
end Go.Sim
set_option maxRecDepth 10000
namespace Go.Sim
open Go.Proofs
def qdy (a0 : List S2062) : List S2068 → Int → Option Int
 | [], x1 => some x1
 | y2 :: t3, x1 => zf (ixO a0 y2.Limit) fun y4 => qdy a0 t3 (min x1 (max 0 (IntKind.i64.wrap (y4.Most - y2.Count))))
def q31 (a0 : List S2062) (a1 : List S1079) (a2 : S1079) : Option Int :=
 qdy a0 (arL a1 a2 a0 0) 999999999
theorem zad {g : GL} (a0 : List S2062) (a1 : List S1079) (a2 : S1079) {R : Int}  (hl0 : a0.length ≤ 1000) (hlim : ∀ x ∈ a0, LimOk x) (hms : MsOk a1) (hm0 : 0 ≤ a2.Moment) (hm1 : a2.Moment ≤ 143999999) (hR : q31 a0 a1 a2 = some R) : Con (EG g) 43 [G.sl 11 (List.map S2062.c a0), G.sl 7 (List.map S1079.c a1), G.agg (S1079.c a2)] (G.int R) := by
 unfold q31 at hR;refine qez Tryz.func43 rfl rfl (kg _) fun w0 M0 => ?_;refine zp (f := S2062.c) (l := a0) 0 rfl fun hla0 => ?_;refine zp (f := S1079.c) (l := a1) 1 rfl fun hla1 => ?_;refine qb ?_;refine qa [.p, .p, .p] ?_;refine su (zi rfl rfl) rfl ?_;refine su (zi rfl rfl) rfl ?_;refine sa rfl rfl ?_;refine qc ?_;refine qb ?_;refine qa [.w, .w] ?_;refine sw (zc 7 rfl z3 rfl rfl) rfl ?_;refine jb rfl rfl (qu (tv := .g (G.int 999999999)) rfl ty3 rfl rfl rfl rfl rfl) ?_;refine qc ?_;refine qb ?_;refine qb ?_;refine qa [.p, .p, .p, .p] ?_;refine su (qg rfl q1l rfl) rfl ?_;refine sm rfl rfl ?_;refine su (qp rfl jf rfl rfl rfl) rfl ?_;refine su (qf rfl zae rfl (zaa a0 a1 a2) (qe rfl (qe rfl (qe rfl qj)))) rfl ?_;refine qc ?_;refine qq ?_;refine qdm (α := S2068) (γ := Int) (enc := winE) (l := [(3, .g (G.ref [G.sl 11 (List.map S2062.c a0)])), (7, .ptr 7 0), (12, .g (G.fn (.func 101) [] [G.ref [G.sl 11 (List.map S2062.c a0)], G.ref (S1079.c a2), G.ref [G.sl 7 (List.map S1079.c a1)]]))]) (arL a1 a2 a0 0) (fun g => [(7, .box [.g (G.int g)])]) (fun tl_ g => qdy a0 tl_ g = some R) 999999999 (fun g y2 => (upd 8 (.ptr 8 0) (upd 13 (.g (winG y2)) (xx [(3, .g (G.ref [G.sl 11 (List.map S2062.c a0)])), (7, .ptr 7 0), (12, .g (G.fn (.func 101) [] [G.ref [G.sl 11 (List.map S2062.c a0)], G.ref (S1079.c a2), G.ref [G.sl 7 (List.map S1079.c a1)]]))])), (8, .box [.g (G.int y2.Limit), .g (G.int y2.Begin), .g (G.int y2.Count)]) :: (8, .box [.g (G.int 0), .g (G.int 0), .g (G.int 0)]) :: [(7, .box [.g (G.int g)])])) rfl ⟨rfl, rfl, rfl, trivial⟩ ⟨rfl, trivial⟩ rfl rfl zaf (quc a0 a1 a2 hl0 hlim hms hm0 hm1) winG q1i (by exact hR) rfl (fun _ => rfl) (fun _ => rfl) ?_ (fun _ _ => rfl) ?_ ?_
 ·rintro y2 x1 lp_ w1_ M1_ x1_;refine qa [.w, .w] ?_;refine sw (zc 8 rfl qhb rfl rfl) rfl ?_;refine jb rfl rfl (qu (tv := .g (G.agg (S2068.c y2))) rfl qbg rfl rfl rfl rfl rfl) ?_;refine qc ?_;exact ⟨rfl, rfl⟩
 ·rintro y2 t3 x1 hx1 hR lp_ w1_ M1_ x1_;replace hR : qdy a0 (y2 :: t3) x1 = some R := hR;rw [qdy] at hR;(try dsimp only at hR);refine qq ?_;obtain ⟨y4, by4, hR⟩ := qi hR;refine zw [.r, .p, .p, .r, .p, .p, .p, .p, .r, .p, .p, .p, .w] (by kernel_rfl) ?_;refine sr (zo rfl ty3 rfl rfl rfl) rfl ?_;refine su (qg rfl q1l rfl) rfl ?_;refine su (qy rfl qz6 rfl) rfl ?_;refine sr (zo rfl ty3 rfl rfl rfl) rfl ?_;refine su (jd (f := S2062.c) (l := a0) (a := y4) rfl Tryz.underlying22 kz rfl rfl (jm by4) (zj by4)) rfl ?_;refine su (qd rfl qjl rfl) rfl ?_;refine su (qg rfl ty3 rfl) rfl ?_;refine su (qy rfl qjn rfl) rfl ?_;refine sr (zo rfl ty3 rfl rfl rfl) rfl ?_;refine su (kw rfl rfl rfl) rfl ?_;refine su (qh0 rfl rfl rfl) rfl ?_;refine su (qqs rfl rfl rfl) rfl ?_;refine jb rfl rfl (qu (tv := .g (G.int (min x1 (max 0 (IntKind.i64.wrap (y4.Most - y2.Count)))))) rfl ty3 rfl rfl rfl rfl rfl) ?_;refine qc ?_;exact ⟨min x1 (max 0 (IntKind.i64.wrap (y4.Most - y2.Count))), hR, ⟨rfl, trivial⟩⟩
 ·rintro x1 hR;replace hR : qdy a0 [] x1 = some R := hR;rw [qdy] at hR;(try dsimp only at hR);refine qb ?_;refine qa [.r, .p] ?_;refine sr (zo rfl ty3 rfl rfl rfl) rfl ?_;refine sa rfl rfl ?_;refine qc ?_;refine qo ?_;obtain rfl := Option.some.inj hR;exact zb rfl (rv_g rfl)
end Go.Sim
set_option maxRecDepth 10000
namespace Go.Sim
open Go.Proofs
def qt3 (a0 : List S2062) (a1 : List S1079) (a2 : S1079) : Option (Int × Int) :=
 zf (qi0 a0 a1) fun r1 => (bif decide ((vx [r1, (qdi a2)]) ≠ 0) then some (0, (vx [r1, (qdi a2)])) else zf (q31 a0 a1 a2) fun r2 => some (r2, 0))
theorem q6s {g : GL} (a0 : List S2062) (a1 : List S1079) (a2 : S1079) {R : Int × Int}  (hb : a1.length ≤ 1000) (hR : qt3 a0 a1 a2 = some R) : Con (EG g) 13 [G.sl 11 (List.map S2062.c a0), G.sl 7 (List.map S1079.c a1), G.agg (S1079.c a2)] (G.tup [G.int R.1, G.int R.2]) := by
 unfold qt3 at hR;refine qm Tryz.func13 rfl rfl fun w0 M0 => ?_;refine zp (f := S2062.c) (l := a0) 0 rfl fun hla0 => ?_;refine zp (f := S1079.c) (l := a1) 1 rfl fun hla1 => ?_;refine qb ?_;refine qa [.p, .p, .p] ?_;refine su (zi rfl rfl) rfl ?_;refine sa rfl rfl ?_;refine sa rfl rfl ?_;refine qc ?_;refine qb ?_;refine qb ?_;obtain ⟨r1, br1, hR⟩ := qi hR;refine zw [.p, .p, .p, .p, .p, .p, .p, .p] (by kernel_rfl) ?_;refine sm rfl rfl ?_;refine sm rfl rfl ?_;refine su (qf rfl q30 rfl (q3x a0 a1 br1) (qe rfl (qe rfl qj))) rfl ?_;refine su (qp rfl jf rfl rfl rfl) rfl ?_;refine su (qf rfl q52 rfl (q51 a2) (qe rfl qj)) rfl ?_;refine su (qv rfl Tryz.underlying170 ty37 z37 rfl (qw rfl (qw rfl jo)) rfl (by simp []) (by decide)) rfl ?_;refine su (qf rfl qks rfl (qkq [r1, (qdi a2)]) (qe rfl qj)) rfl ?_;refine sa rfl rfl ?_;refine qc ?_;refine qb ?_;refine qa [.p, .p] ?_;refine sm rfl rfl ?_;refine su (zy rfl rfl rfl) rfl ?_;refine qc ?_;refine ql _ rfl (fun h1 => ?_) (fun h1 => ?_)
 ·replace h1 : (decide ((vx [r1, (qdi a2)]) ≠ 0)) = true := h1;replace hR := zk hR h1;(try simp only [bB] at h1);refine qb ?_;refine qa [.p, .p, .p] ?_;refine sm rfl rfl ?_;refine sa rfl rfl ?_;refine sa rfl rfl ?_;refine qc ?_;refine qo ?_;obtain rfl := Option.some.inj hR;exact resN rfl ⟨rv_g rfl, rv_g rfl, trivial⟩ (by simp)
 ·replace h1 : (decide ((vx [r1, (qdi a2)]) ≠ 0)) = false := h1;replace hR := zl hR h1;(try simp only [bB] at h1);obtain ⟨hlen, hlim, hms, hmv, hmo⟩ := qz5 hb br1 h1;refine qn ?_;refine qb ?_;obtain ⟨r2, br2, hR⟩ := qi hR;refine qa [.p, .p, .p, .p, .p, .p] ?_;refine sm rfl rfl ?_;refine sm rfl rfl ?_;refine su (qp rfl jf rfl rfl rfl) rfl ?_;refine su (qf rfl zag rfl (zad a0 a1 a2 (by omega) hlim hms hmo.m0 hmo.m1 br2) (qe rfl (qe rfl (qe rfl qj)))) rfl ?_;refine sa rfl rfl ?_;refine sa rfl rfl ?_;refine qc ?_;refine qo ?_;obtain rfl := Option.some.inj hR;exact resN rfl ⟨rv_g rfl, rv_g rfl, trivial⟩ (by simp)
end Go.Sim
set_option maxRecDepth 10000
namespace Go.Sim
open Go.Proofs
def qih  : List Int → Nat → Int
 | [], k2 => 0
 | y3 :: t4, k2 => (bif decide (y3 ≠ 0) then y3 else qih  t4 (k2 + 1))
def s176 (a0 : List Int) : Int :=
 qih a0 0
theorem c176 {g : GL} (a0 : List Int)    : Con (EG g) 142 [G.sl 1 (List.map cInt a0)] (G.int (s176 a0)) := by
 generalize hR : s176 a0 = R;unfold s176 at hR;refine qm Tryz.func142 rfl rfl fun w0 M0 => ?_;refine zp (f := cInt) (l := a0) 0 rfl fun hla0 => ?_;refine qb ?_;refine qa [.p] ?_;refine sa rfl rfl ?_;refine qc ?_;refine qb ?_;refine qa [.p] ?_;refine sa rfl rfl ?_;refine qc ?_;refine qb ?_;refine qb ?_;refine qa [.p, .p, .p] ?_;refine sm rfl rfl ?_;refine su (za (f := cInt) (l := a0) rfl Tryz.underlying38 rfl) rfl ?_;refine sm rfl rfl ?_;refine qc ?_;refine qq ?_;refine zh (γ := Nat × (List Int)) (fun g => ([(3, .g (G.int 0)), (6, .g (G.sl 1 (List.map cInt a0))), (7, .g (G.int (List.length a0 : Int))), (8, .g (G.int ((g.1 : Nat) : Int)))], [])) (fun g => a0.drop g.1 = g.2 ∧ qih  g.2 g.1 = R) (fun g => List.length g.2) ⟨rfl, (0, a0), jA, trivial, rfl, ⟨rfl, (by exact hR)⟩, trivial⟩ ?_
 ·rintro ⟨k2, t4⟩ ⟨hd, hR⟩;replace hd : a0.drop k2 = t4 := hd;replace hR : qih  t4 k2 = R := hR;refine qb ?_;refine qa [.p] ?_;refine su (zg rfl rfl rfl) rfl ?_;refine qc ?_;refine zp (f := cInt) (l := a0) 6 rfl fun hlz1 => ?_;refine qb ?_;refine ql _ rfl (fun h1 => ?_) (fun h1 => ?_)
  ·replace h1 : (decide (((k2 : Nat) : Int) < (List.length a0 : Int))) = true := h1;obtain ⟨y3, t4, rfl, hx1, hd⟩ := zq hd (decT h1);replace h1 := decT h1;rw [qih] at hR;(try dsimp only at hR);refine qn ?_;refine qb ?_;refine qq ?_;refine qb ?_;refine qa [.p, .p, .p] ?_;refine su (jd (f := cInt) (l := a0) (a := y3) rfl Tryz.underlying38 ty3 rfl rfl (Int.natCast_nonneg _) hx1) rfl ?_;refine su (qg rfl ty3 rfl) rfl ?_;refine sa rfl rfl ?_;refine qc ?_;refine qb ?_;refine qa [.p, .p, .p] ?_;refine sm rfl rfl ?_;refine sm rfl rfl ?_;refine su (zy rfl rfl rfl) rfl ?_;refine qc ?_;refine ql _ rfl (fun h3 => ?_) (fun h3 => ?_)
   ·replace hR := zk hR h3;refine qb ?_;refine qa [.p, .p] ?_;refine sm rfl rfl ?_;refine sa rfl rfl ?_;refine qc ?_;refine qo ?_;subst hR;exact zb rfl (rv_g rfl)
   ·replace h3 : (decide (y3 ≠ 0)) = false := h3;replace hR := zl hR h3;(try simp only [bB] at h3);refine qn ?_;refine qa [.p, .p] ?_;refine su (zn rfl rfl rfl iE) rfl ?_;refine sm rfl rfl ?_;refine qc ?_;exact ⟨rfl, (k2 + 1, t4), jA, trivial, rfl, ⟨hd, hR⟩, by simp⟩
  ·replace h1 : (decide (((k2 : Nat) : Int) < (List.length a0 : Int))) = false := h1;obtain rfl := z8 hd (decF h1);rw [qih] at hR;refine zt ?_;refine qb ?_;refine qa [.p, .p] ?_;refine sm rfl rfl ?_;refine sa rfl rfl ?_;refine qc ?_;refine qo ?_;subst hR;exact zb rfl (rv_g rfl)
def qnw (a0 : S1079) (a1 : S1079) : Int :=
 (s176 [(s167 a0.Moment a1.Moment), (s133 a0.Kind a1.Kind), (s133 a0.Name a1.Name)])
theorem q65 {g : GL} (a0 : S1079) (a1 : S1079)    : Con (EG g) 150 [G.agg (S1079.c a0), G.agg (S1079.c a1)] (G.int (qnw a0 a1)) := by
 generalize hR : qnw a0 a1 = R;unfold qnw at hR;refine qm Tryz.func150 rfl rfl fun w0 M0 => ?_;refine qb ?_;refine qa [.p, .p, .p] ?_;refine su (zi rfl rfl) rfl ?_;refine su (zi rfl rfl) rfl ?_;refine sa rfl rfl ?_;refine qc ?_;refine qb ?_;refine zw [.p, .p, .p, .p, .p, .p, .p, .p, .p, .p, .p, .p, .p, .p, .p, .p, .p, .p] (by kernel_rfl) ?_;refine su (qd rfl qba rfl) rfl ?_;refine su (qg rfl ty3 rfl) rfl ?_;refine su (qd rfl qba rfl) rfl ?_;refine su (qg rfl ty3 rfl) rfl ?_;refine su (qf rfl K167 rfl (c167 a0.Moment a1.Moment) (qe rfl (qe rfl qj))) rfl ?_;refine su (qd rfl qe1 rfl) rfl ?_;refine su (qg rfl ty9 rfl) rfl ?_;refine su (qd rfl qe1 rfl) rfl ?_;refine su (qg rfl ty9 rfl) rfl ?_;refine su (qf rfl K133 rfl (c133 a0.Kind a1.Kind) (qe rfl (qe rfl qj))) rfl ?_;refine su (qd rfl qnj rfl) rfl ?_;refine su (qg rfl ty9 rfl) rfl ?_;refine su (qd rfl qnj rfl) rfl ?_;refine su (qg rfl ty9 rfl) rfl ?_;refine su (qf rfl K133 rfl (c133 a0.Name a1.Name) (qe rfl (qe rfl qj))) rfl ?_;refine su (qv rfl Tryz.underlying38 ty3 z3 rfl (qw rfl (qw rfl (qw rfl jo))) rfl (by simp []) (by decide)) rfl ?_;refine su (qf rfl K176 rfl (c176 [(s167 a0.Moment a1.Moment), (s133 a0.Kind a1.Kind), (s133 a0.Name a1.Name)]) (qe rfl qj)) rfl ?_;refine sa rfl rfl ?_;refine qc ?_;refine qo ?_;subst hR;exact zb rfl (rv_g rfl)
end Go.Sim
set_option maxRecDepth 10000
namespace Go.Sim
open Go.Proofs
def s69 (a0 : S45) : (List Int) × Int :=
 (bif decide ((s102 a0) ≠ 0) then ([], (s102 a0)) else (dayL a0.Days (a0.fTo + 1 - a0.fFrom).toNat a0.fFrom, 0))
theorem c69 {g : GL} (a0 : S45)    : Con (EG g) 127 [G.agg (S45.c a0)] (G.tup [G.slX 1 (List.map cInt ((s69 a0)).1), G.int ((s69 a0)).2]) := by
 generalize hR : s69 a0 = R;unfold s69 at hR;refine qm Tryz.func127 rfl rfl fun w0 M0 => ?_;refine qb ?_;refine qa [.p, .p, .p] ?_;refine su (zi rfl rfl) rfl ?_;refine sa rfl rfl ?_;refine sa rfl rfl ?_;refine qc ?_;refine qb ?_;refine qb ?_;refine qa [.p, .p, .p] ?_;refine su (qp rfl ty46 rfl rfl rfl) rfl ?_;refine su (qf rfl K102 rfl (c102 a0) (qe rfl qj)) rfl ?_;refine sa rfl rfl ?_;refine qc ?_;refine qb ?_;refine qa [.p, .p] ?_;refine sm rfl rfl ?_;refine su (zy rfl rfl rfl) rfl ?_;refine qc ?_;refine ql _ rfl (fun h1 => ?_) (fun h1 => ?_)
 ·replace h1 : (decide ((s102 a0) ≠ 0)) = true := h1;replace hR := zk hR h1;(try simp only [bB] at h1);refine qb ?_;refine qa [.p, .p, .p] ?_;refine sm rfl rfl ?_;refine sa rfl rfl ?_;refine sa rfl rfl ?_;refine qc ?_;refine qo ?_;subst hR;exact resN rfl ⟨qqo rfl (q2y _), rv_g rfl, trivial⟩ (by simp)
 ·replace h1 : (decide ((s102 a0) ≠ 0)) = false := h1;replace hR := zl hR h1;(try simp only [bB] at h1);have hp := wv a0 (by simpa using h1);refine qn ?_;refine qb ?_;refine qa [.p, .p, .p, .p, .p] ?_;refine su (qp rfl ty46 rfl rfl rfl) rfl ?_;refine su (qf rfl K136 rfl (c136 a0.fFrom a0.fTo a0.Days) (qe rfl qj)) rfl ?_;refine su (qf rfl K135 rfl (q8t a0.fFrom a0.fTo a0.Days hp.1 (by omega)) (qe rfl (qe rfl qj))) rfl ?_;refine sa rfl rfl ?_;refine sa rfl rfl ?_;refine qc ?_;refine qo ?_;subst hR;exact resN rfl ⟨rv_g rfl, rv_g rfl, trivial⟩ (by simp)
theorem c69' {g : GL} (a0 : S45) : Con (EG g) 127 [G.agg (S45.c a0)] (G.tup [G.sl 1 (List.map cInt ((s69 a0)).1), G.int ((s69 a0)).2]) := by
 intro w M vs hM hgl hv;refine (c69 a0 w M vs hM hgl hv).mono ?_;rintro e w' ⟨v, h1, h2, us, h3, h4⟩;refine ⟨v, h1, h2, us, h3, ?_⟩
 match us, h4 with
 | [u1, u2], ⟨k1, k2, k3⟩ => exact ⟨q5n k1, k2, k3⟩
theorem qfj : ∀ (l : List Int) (k : Nat), wy l k = 0 ↔ ∀ x ∈ l, x = 0
 | [], k => by simp [wy]
 | y :: t, k => by
  rw [wy]
  by_cases h : y = 0
  ·rw [decide_eq_false (by simpa using h), cond_false, qfj t]; simp [h]
  ·rw [decide_eq_true h, cond_true]; simp [h]
theorem qra (l : List Int) : vx l = 0 ↔ ∀ x ∈ l, x = 0 := qfj l 0
theorem q1m {a0 : S115} (h : ¬ qcp a0 ≠ 0) : s102 a0.Period = 0 := (qra _).1 (Decidable.not_not.1 h) _ (by simp)
theorem qlo {p : S45} (h : s102 p = 0) : s69 p = (dayL p.Days (p.fTo + 1 - p.fFrom).toNat p.fFrom, 0) := by unfold s69; rw [h]; rfl
theorem qnv {p : S45} (h : s102 p = 0) : ((s69 p).1).length ≤ 401 := by
 rw [qlo h];obtain ⟨q1, q2, q3, q4, q5, q6⟩ := wv p h;have := qje p.Days (p.fTo + 1 - p.fFrom).toNat p.fFrom;show (dayL p.Days (p.fTo + 1 - p.fFrom).toNat p.fFrom).length ≤ 401
 omega
end Go.Sim
set_option maxRecDepth 10000
namespace Go.Sim
open Go.Proofs
def qb6 (a0 : S115) : List Int → Nat → (List S1079) → List S1079
 | [], k3, x1 => x1
 | y4 :: t5, k3, x1 => qb6 a0 t5 (k3 + 1) (x1 ++ [(S1079.mk (IntKind.i64.wrap ((IntKind.i64.wrap (1440 * y4)) + a0.Minute)) a0.Kind a0.Terminal a0.Seats a0.Size a0.Noise a0.Name)])
def qs9 (a0 : S115) : List S1079 :=
 qb6 a0 ((s69 a0.Period).1) 0 []
set_option maxHeartbeats 4000000 in
theorem zah {g : GL} (a0 : S115)  (hp : s102 a0.Period = 0)  : Con (EG g) 147 [G.agg (S115.c a0)] (G.sl 7 (List.map S1079.c (qs9 a0))) := by
 generalize hR : qs9 a0 = R;unfold qs9 at hR;refine qm Tryz.func147 rfl rfl fun w0 M0 => ?_;have hl := qnv hp;refine qb ?_;refine qa [.p, .w] ?_;refine su (zi rfl rfl) rfl ?_;refine sw (xc 2 53 7 rfl rfl rfl) rfl ?_;refine qc ?_;refine qb ?_;refine qa [.p, .p, .p, .p, .p, .p, .p, .p] ?_;refine su (qd rfl wt rfl) rfl ?_;refine su (qp rfl ty46 rfl rfl rfl) rfl ?_;refine su (qf rfl K69 rfl (c69' a0.Period) (qe rfl qj)) rfl ?_;refine sm rfl rfl ?_;refine su (qt rfl rfl rfl) rfl ?_;refine su (qt rfl rfl rfl) rfl ?_;refine sa rfl rfl ?_;refine sa rfl rfl ?_;refine qc ?_;refine qb ?_;refine qa [.w] ?_;refine sw (xc 5 53 7 rfl rfl rfl) rfl ?_;refine qc ?_;refine qb ?_;refine qb ?_;refine qa [.p, .p, .p] ?_;refine sm rfl rfl ?_;refine su (za (f := cInt) (l := (s69 a0.Period).1) rfl Tryz.underlying38 rfl) rfl ?_;refine sm rfl rfl ?_;refine qc ?_;refine qq ?_;refine zh (γ := Nat × (List Int) × (List S1079)) (fun g => ([(1, .g (G.ref (S115.c a0))), (5, .osl 5 7 0 (List.length g.2.2)), (14, .g (G.sl 1 (List.map cInt ((s69 a0.Period).1)))), (15, .g (G.int (List.length ((s69 a0.Period).1) : Int))), (16, .g (G.int ((g.1 : Nat) : Int)))], [(5, .arr 53 7 (List.map S1079.c g.2.2))])) (fun g => g.2.2.length ≤ g.1 ∧ g.1 ≤ ((s69 a0.Period).1).length ∧ g.2.2.length ≤ g.1 ∧ ((s69 a0.Period).1).drop g.1 = g.2.1 ∧ qb6 a0 g.2.1 g.1 g.2.2 = R) (fun g => List.length g.2.1) ⟨rfl, (0, ((s69 a0.Period).1), []), jA, ⟨rfl, trivial⟩, rfl, ⟨iH, iH, iH, rfl, (by exact hR)⟩, trivial⟩ ?_
 ·rintro ⟨k3, t5, x1⟩ ⟨iv1_0, iv1_1, iv1_2, hd, hR⟩;replace hd : ((s69 a0.Period).1).drop k3 = t5 := hd;replace hR : qb6 a0 t5 k3 x1 = R := hR;replace iv1_0 : x1.length ≤ k3 := iv1_0;replace iv1_1 : k3 ≤ ((s69 a0.Period).1).length := iv1_1;replace iv1_2 : x1.length ≤ k3 := iv1_2;refine qb ?_;refine qa [.p] ?_;refine su (zg rfl rfl rfl) rfl ?_;refine qc ?_;refine zp (f := cInt) (l := (s69 a0.Period).1) 14 rfl fun hlz1 => ?_;refine qb ?_;refine ql _ rfl (fun h1 => ?_) (fun h1 => ?_)
  ·replace h1 : (decide (((k3 : Nat) : Int) < (List.length ((s69 a0.Period).1) : Int))) = true := h1;obtain ⟨y4, t5, rfl, hx1, hd⟩ := zq hd (decT h1);replace h1 := decT h1;rw [qb6] at hR;(try dsimp only at hR);refine qn ?_;refine qb ?_;refine qq ?_;refine qb ?_;refine qa [.p, .p, .p] ?_;refine su (jd (f := cInt) (l := (s69 a0.Period).1) (a := y4) rfl Tryz.underlying38 ty3 rfl rfl (Int.natCast_nonneg _) hx1) rfl ?_;refine su (qg rfl ty3 rfl) rfl ?_;refine sa rfl rfl ?_;refine qc ?_;refine qa [.p, .p, .p, .p, .p, .p, .p, .p, .p, .p, .p, .p, .p, .p, .p, .p, .p, .p, .p, .p, .k, .p] ?_;refine su (zd rfl rfl) rfl ?_;refine sm rfl rfl ?_;refine su (qep rfl rfl rfl) rfl ?_;refine su (qd rfl qko rfl) rfl ?_;refine su (qg rfl ty3 rfl) rfl ?_;refine su (kp rfl rfl rfl) rfl ?_;refine su (qd rfl qfs rfl) rfl ?_;refine su (qg rfl ty9 rfl) rfl ?_;refine su (qd rfl qh4 rfl) rfl ?_;refine su (qg rfl ty9 rfl) rfl ?_;refine su (qd rfl qnd rfl) rfl ?_;refine su (qg rfl ty3 rfl) rfl ?_;refine su (qd rfl qne rfl) rfl ?_;refine su (qg rfl ty3 rfl) rfl ?_;refine su (qd rfl qjj rfl) rfl ?_;refine su (qg rfl ty3 rfl) rfl ?_;refine su (qd rfl kr rfl) rfl ?_;refine su (qg rfl ty9 rfl) rfl ?_;refine su (jg rfl qqw rfl qxd (zz rfl (zz rfl (zz rfl (zz rfl (zz rfl (zz rfl (zz rfl kx))))))) rfl) rfl ?_;refine su (qv rfl Tryz.underlying48 jf qqw rfl (qw rfl jo) rfl (by exact lens rfl) (by decide)) rfl ?_;refine st_k rfl rfl (vi (f := S1079.c) (out := x1) (new := [(S1079.mk (IntKind.i64.wrap ((IntKind.i64.wrap (1440 * y4)) + a0.Minute)) a0.Kind a0.Terminal a0.Seats a0.Size a0.Noise a0.Name)]) rfl qn2 rfl rfl (qad rfl (qae (by decide) (by simp [S1079.c]))) (qi1 rfl) (by simp; omega)) rfl ?_;refine su (je rfl rfl) rfl ?_;refine qc ?_;refine qa [.p, .p] ?_;refine su (zn rfl rfl rfl iE) rfl ?_;refine sm rfl rfl ?_;refine qc ?_;exact ⟨rfl, (k3 + 1, t5, x1 ++ [(S1079.mk (IntKind.i64.wrap ((IntKind.i64.wrap (1440 * y4)) + a0.Minute)) a0.Kind a0.Terminal a0.Seats a0.Size a0.Noise a0.Name)]), jA, ⟨rfl, trivial⟩, rfl, ⟨iB, iB, iB, hd, hR⟩, by simp⟩
  ·replace h1 : (decide (((k3 : Nat) : Int) < (List.length ((s69 a0.Period).1) : Int))) = false := h1;obtain rfl := z8 hd (decF h1);rw [qb6] at hR;refine zt ?_;refine qb ?_;refine qa [.p, .p] ?_;refine su (zd rfl rfl) rfl ?_;refine su (je rfl rfl) rfl ?_;refine qc ?_;refine qo ?_;subst hR;exact zb rfl (qdt rfl rfl)
def qfe (a0 : S115) : (List S1079) × Int :=
 (bif decide ((qcp a0) ≠ 0) then ([], (qcp a0)) else ((qs9 a0), 0))
theorem q32 {g : GL} (a0 : S115)    : Con (EG g) 93 [G.agg (S115.c a0)] (G.tup [G.sl 7 (List.map S1079.c ((qfe a0).1)), G.int ((qfe a0).2)]) := by
 generalize hR : qfe a0 = R;unfold qfe at hR;refine qm Tryz.func93 rfl rfl fun w0 M0 => ?_;refine qb ?_;refine qa [.p, .p, .p] ?_;refine su (zi rfl rfl) rfl ?_;refine sa rfl rfl ?_;refine sa rfl rfl ?_;refine qc ?_;refine qb ?_;refine qb ?_;refine qa [.p, .p, .p] ?_;refine su (qp rfl wo rfl rfl rfl) rfl ?_;refine su (qf rfl q66 rfl (q5s a0) (qe rfl qj)) rfl ?_;refine sa rfl rfl ?_;refine qc ?_;refine qb ?_;refine qa [.p, .p] ?_;refine sm rfl rfl ?_;refine su (zy rfl rfl rfl) rfl ?_;refine qc ?_;refine ql _ rfl (fun h1 => ?_) (fun h1 => ?_)
 ·replace h1 : (decide ((qcp a0) ≠ 0)) = true := h1;replace hR := zk hR h1;(try simp only [bB] at h1);refine qb ?_;refine qa [.p, .p, .p] ?_;refine sm rfl rfl ?_;refine sa rfl rfl ?_;refine sa rfl rfl ?_;refine qc ?_;refine qo ?_;subst hR;exact resN rfl ⟨qqo rfl (qip _), rv_g rfl, trivial⟩ (by simp)
 ·replace h1 : (decide ((qcp a0) ≠ 0)) = false := h1;replace hR := zl hR h1;(try simp only [bB] at h1);have hp := q1m h1;refine qn ?_;refine qb ?_;refine qa [.p, .p, .p, .p] ?_;refine su (qp rfl wo rfl rfl rfl) rfl ?_;refine su (qf rfl zai rfl (zah a0 (by first | assumption | omega | (simp [qh]; done) | (simp [qh]; omega))) (qe rfl qj)) rfl ?_;refine sa rfl rfl ?_;refine sa rfl rfl ?_;refine qc ?_;refine qo ?_;subst hR;exact resN rfl ⟨rv_g rfl, rv_g rfl, trivial⟩ (by simp)
end Go.Sim
