/-
  What is proved: lemmas and contracts of functions on the way to the law topBeaconHours (part 9).
-/
import Derived.Test.YtkeegnagpekgmaaGreatVrA8
import Derived.RangeFuncBound
set_option linter.unusedSectionVars false
set_option linter.unusedSimpArgs false
set_option linter.unusedVariables false
set_option linter.unnecessarySimpa false
set_option linter.deprecated false
namespace Go.Sim
section
variable {E : Env} {w0 : World} {M0 : Nat → Prop}
theorem put_size (w : World) (b : Nat) (o : Obj) : (w.putObj b o).heap.size = w.heap.size := by simp [World.putObj]
theorem put_belowX (w : World) (b : Nat) (o : Obj) {L : Nat → Prop} (h : L b) : BelowX L w (w.putObj b o) :=
 ⟨rfl, rfl, rfl, Nat.le_of_eq (put_size w b o).symm, fun k _ hl => World.putObj_heap_other fun e => hl (by rw [e]; exact h)⟩
theorem aw_rangeFunc {α γ : Type} {gop : Operand} {p : Tmp} {assign body : Code} {Q : Exit → ASt → Prop} {n : Nat} {t : Nat → TV} {gf : FuncId} {caps : List G} {enc : α → Value} {xs : List α}
  (m : γ → Mem) (I : List α → γ → Prop) (g0 : γ) (S1 : γ → α → ASt) (Px : Code → List α → Mem → Prop)
  (hmk : E.mks = true) (hrn : E.rnd = none) (hk : Known E.P gf) (hp : p < n)
  (hg : ASt.eval E ⟨n, t, m g0⟩ gop = .g (.fn (.func gf) [] caps)) (hseq : Seq E gf caps enc xs)
  (hg0 : I [] g0) (hids : ∀ g, sameIds (m g0) (m g)) (hgood : ∀ g, goodM (m g) = true)
  (hassign : ∀ pre x post g, xs = pre ++ x :: post → I pre g → ∀ lp w1 M1 x1, AWp (E.turn lp (m g) x1) w1 M1 assign (fun e s' => e = .normal ∧ s' = S1 g x) ⟨n, upd p (.g (.lit (enc x))) t, m g⟩)
  (hlive1 : ∀ g x, liveM (S1 g x).mem = true)
  (hbody : ∀ pre x post g, xs = pre ++ x :: post → I pre g → ∀ lp w1 M1 x1, AWp (E.turn lp (S1 g x).mem x1) w1 M1 body (RoundQ m I Px (m g0) (pre ++ [x])) (S1 g x))
  (hdone : ∀ g, I xs g → Q .normal ⟨n, t, m g⟩)
  (hstop : ∀ c pre mx, pre <+: xs → Px c pre mx → AWp E w0 M0 c Q ⟨n, t, mx⟩) : AWp E w0 M0 (.rangeFunc gop #[p] assign body) Q ⟨n, t, m g0⟩ := by
 intro a w ha;obtain ⟨ρ, hm, hmks, ht⟩ := ha.ex
 have hF : E.F = Fence.wide := by unfold Env.F; rw [hrn]; rfl
 obtain ⟨fs, cs, hge, hfs, hcs⟩ : (G.fn (.func gf) [] caps).p w (owned M0 ρ) (a.eval gop) := by
  have := eval_rel hm ht gop;rw [hg] at this;exact this
 obtain rfl : fs = [] := by cases fs with
  | nil => rfl
  | cons => exact hfs.elim
 obtain ⟨fng, k1, k2, k3⟩ := hk;refine wpIn_rangeFunc ?_;intro fn _;obtain ⟨rec, hrec⟩ : ∃ rec : LoopState → Option Code → Loop, rec = fun st pe => { state := st, pending := pe, fn, tmps := a.tmps, params := #[p], assign, body, defers := w.heap.size } := ⟨_, rfl⟩;obtain ⟨w2, hw2⟩ : ∃ w2, (w.alloc (.deferred (some []))).alloc (.loop (rec .ready none)) = w2 := ⟨_, rfl⟩
 have hgr : Grow w w2 := by rw [← hw2]; exact (Grow.alloc w _).trans (Grow.alloc _ _)
 have hsz : w2.heap.size = w.heap.size + 2 := by rw [← hw2]; simp
 have hL : w2.heap[w.heap.size + 1]? = some (.loop (rec .ready none)) := by
  rw [← hw2]; have := World.alloc_heap_new (w.alloc (.deferred (some []))) (.loop (rec .ready none)); rwa [World.size_alloc] at this
 have hD : w2.heap[w.heap.size]? = some (.deferred (some [])) := by
  rw [← hw2]; exact (RowKit.Below.heap_alloc _ _ _ (by simp)).trans (World.alloc_heap_new w _)
 have hρlt : ∀ id ow, ρ id = some (some ow) → ow.b < w.heap.size := fun id ow h => (hm.fresh id ow h).2
 have hrun : (Instr.enterLoop fn a.tmps #[p] assign body E.F.round).run E.P w = .ok (w.heap.size + 1, [{ target := .collected w.heap.size, args := #[] }]) w2 := by
  rw [← hw2, hrec, hF]; exact run_enterLoop_outer _ _ _ _ _
 clear hw2;generalize hDD : w.heap.size = D at *;generalize hlpp : D + 1 = lp at *
 let Mo : Nat → Prop := fun b => owned M0 ρ b ∨ b = D ∨ b = lp
 let L : Nat → Prop := fun b => b = lp ∨ ∃ id ow, ρ id = some (some ow) ∧ ow.b = b
 have hLMo : ∀ b, L b → Mo b := by
  rintro b (h | ⟨id, ow, h, rfl⟩)
  ·exact .inr (.inr h)
  ·exact .inl (.inr ⟨id, ow, h, rfl⟩)
 have hsubMo : ∀ id ow, ρ id = some (some ow) → Mo ow.b := fun id ow h => .inl (.inr ⟨id, ow, h, rfl⟩)
 have hMow : ∀ b, Mo b → b < w2.heap.size := by
  rintro b (h | h | h)
  ·have := hm.lt b h; omega
  ·omega
  ·omega
 have hMoSub : ∀ b, b < w.heap.size → Mo b → owned M0 ρ b := by
  rintro b hb (h | h | h)
  ·exact h
  ·omega
  ·omega
 have hgl2 : GlOk E w2 Mo := fun g vs hgv => by
  obtain ⟨⟨g1, g2⟩, g3⟩ := hm.glob g vs hgv;refine ⟨⟨?_, by omega⟩, g3.mono hgr.hh hMoSub g1⟩;rintro (h | h | h)
  ·exact g1 h
  ·omega
  ·omega
 have hdom : ∀ gg id y, ρ id = some y → ∃ blk, lookO (m gg) id = some blk := fun gg id y h => by
  rw [look_ids, hids gg, ← look_ids]; exact hm.dom id y h
 let x0 : Nat → Option Own := fun id => (ρ id).getD none
 have hx00 : ∀ id blk, lookO (m g0) id = some blk → ρ id = some (x0 id) := fun id blk h => by
  have h1 := List.all_eq_true.1 (hgood g0) _ (lookO_mem _ h);simp only [Bool.and_eq_true] at h1;obtain ⟨y, hy⟩ := (hm.blk id blk h).has h1.1;simp only [x0, hy, Option.getD_some]
 have hx0 : ∀ mx, sameIds (m g0) mx → ∀ id blk, lookO mx id = some blk → ρ id = some (x0 id) := fun mx hs id blk h => by
  obtain ⟨b0, hb0⟩ : ∃ b0, lookO (m g0) id = some b0 := by rw [look_ids, ← hs, ← look_ids]; exact ⟨_, h⟩
  exact hx00 id b0 hb0
 have hhW : ∀ W, BelowX L w2 W → ∀ b, b < w2.heap.size → ¬ Mo b → W.heap[b]? = w2.heap[b]? := fun W h b hb hno => h.block b hb fun hl => hno (hLMo b hl)
 have htW : ∀ W, BelowX L w2 W → ∀ i, TRel W Mo ρ (t i) (a.tmps.getD i undef) := fun W h i =>
  ((ht i).mono none (by cases ASt.get ⟨n, t, m g0⟩ i <;> rfl) hgr.hh hMoSub (fun _ _ _ => rfl)).mono none (by cases ASt.get ⟨n, t, m g0⟩ i <;> rfl) (hhW W h) (fun _ _ h => h) (fun _ _ _ => rfl)
 -- behind the loop
 have back : ∀ mx W' st pe, sameIds (m g0) mx → Jm ρ Mo lp D w2 (.loop (rec st pe)) mx W' →
   ARel E w0 M0 ⟨n, t, mx⟩ { a with defers := { target := .collected D, args := #[] } :: a.defers } (W'.putObj lp (.loop { rec st pe with state := .exhausted })) := by
  rintro mx W' st pe hs ⟨j1, j2, j3, j4⟩;have hfull : BelowX L w2 (W'.putObj lp (.loop { rec st pe with state := .exhausted })) := j1.trans (put_belowX _ _ _ (.inl rfl))
  have hhw : ∀ b, b < w.heap.size → ¬ owned M0 ρ b → (W'.putObj lp (.loop { rec st pe with state := .exhausted })).heap[b]? = w.heap[b]? := fun b hb hno =>
   (hhW _ hfull b (by omega) fun h => hno (hMoSub b hb h)).trans (hgr.block b hb)
  have hsize : w.heap.size ≤ (W'.putObj lp (.loop { rec st pe with state := .exhausted })).heap.size := by have := hfull.size; omega
  refine ⟨(fun h => by rw [hmk] at h; cases h), ha.size, ρ, ⟨?_, hm.m0, ?_, ?_, ?_, hm.inj, hm.keep, hm.lentM, ?_⟩, ?_, fun i => ?_⟩
  ·refine ⟨hfull.os.trans (hgr.os.trans hm.below.os), hfull.tape.trans (hgr.tape.trans hm.below.tape), hfull.output.trans (hgr.output.trans hm.below.output), Nat.le_trans hm.below.size hsize, fun k hk' hl => ?_⟩;have hkw := Nat.lt_of_lt_of_le hk' hm.below.size;refine (hfull.block k (by omega) ?_).trans ((hgr.block k hkw).trans (hm.below.block k hk' hl));rintro (h | ⟨id, ow, h, rfl⟩)
   ·omega
   ·rcases (hm.fresh id ow h).1 with g | g
    ·omega
    ·exact hl g
  ·exact hm.glob.grow hsize hhw
  ·intro id y h;rw [look_ids, hs, ← look_ids]; exact hm.dom id y h
  ·exact fun id ow h => ⟨(hm.fresh id ow h).1, Nat.lt_of_lt_of_le (hm.fresh id ow h).2 hsize⟩
  ·intro id blk hb;refine (j2 id blk hb).mono none (by simp) (noref_none _) (fun ow ho => World.putObj_heap_other ?_) (fun b _ hno => World.putObj_heap_other ?_) (fun b _ h => .inl h) (fun _ _ _ => rfl)
   ·have := hρlt id ow ho; omega
   ·intro e; exact hno (.inr (.inr e))
  ·refine ⟨List.nodup_cons.2 ⟨fun hd => ?_, hmks.1⟩, fun d hd => ?_⟩
   ·obtain ⟨D', q1, q2, q3⟩ := hmks.2 _ hd;have hq := (Array.getElem?_eq_some_iff.1 q3.2).1;simp only [Deferred.mk.injEq, Target.collected.injEq, and_true] at q1
    omega
   rcases List.mem_cons.1 hd with rfl | hd
   ·refine ⟨D, rfl, by have := hm.below.size; omega, ?_, (World.putObj_heap_other (by omega)).trans j4⟩;rintro (h | ⟨id, ow, h, e⟩)
    ·have := hm.m0 D h; have := hm.below.size; omega
    ·have := hρlt id ow h; omega
   ·obtain ⟨D', q1, q2, q3⟩ := hmks.2 d hd;exact ⟨D', q1, q2, (G.mark D').mono q3 hhw (fun _ _ h => h)⟩
  ·exact (ht i).mono none (by cases ASt.get ⟨n, t, m g0⟩ i <;> rfl) hhw (fun _ _ h => h) (fun _ _ _ => rfl)
 refine ⟨lp, [{ target := .collected D, args := #[] }], w2, { target := .fn (.func gf) cs.toArray, args := #[.func (.yield lp) #[] #[]] }, w2, gf,
  #[.func (.yield lp) #[] #[]] ++ cs.toArray, w2, hrun, ?_, fun _ _ => trivial, ?_, env_room, ?_⟩
 ·simp only [resolve, hge]
  simp [go_sem]
 ·simp [invoke, go_sem, run_callFunc k1 k2 k3]
 rw [hF]
 refine (hseq w2 Mo cs lp (fun pre W => ∃ gg, I pre gg ∧ Jm ρ Mo lp D w2 (.loop (rec .ready none)) (m gg) W)
  (fun pre W => ∃ c mx, Px c pre mx ∧ sameIds (m g0) mx ∧ Jm ρ Mo lp D w2 (.loop (rec .done (some c))) mx W) hMow hgl2 (hcs.mono hgr.hh hMoSub)
  (fun pre W W' ⟨gg, hI, h⟩ hg' => ⟨gg, hI, h.grow (fun id ow ho => by have := hρlt id ow ho; omega) hg'⟩) (fun pre W W' ⟨c, mx, h1, h2, h3⟩ hg' => ⟨c, mx, h1, h2, h3.grow (fun id ow ho => by have := hρlt id ow ho; omega) hg'⟩) ?_ ?_).mono ?_
 ·-- ONE ROUND
  rintro pre x post W1 hxs _ ⟨gg, hI, j1, j2, j3, j4⟩;have hlpW1 : lp < W1.heap.size := (Array.getElem?_eq_some_iff.1 j3).1;have hy := run_yield (P := E.P) (args := #[enc x]) j3 (by rw [hrec]; rfl);refine ⟨_, _, _, _, hy, roundIn_of_wpIn trivial ?_⟩;clear hy
  have hfold : (((rec .ready none).params.zip #[enc x]).foldl (fun tmps (t, a) => tmps.setIfInBounds t a) (rec .ready none).tmps) = (a.put (some p) (enc x)).tmps := by rw [hrec]; simp [Act.put]
  have has : (rec .ready none).assign = assign := by rw [hrec]
  have hbo : (rec .ready none).body = body := by rw [hrec]
  rw [hfold, has, hbo];obtain ⟨o1, l1, mr1⟩ := mrel_turn (E := E) (x := x0) lp (mem := m gg) (W := W1) (Mo := Mo) (fun b h => Nat.lt_of_lt_of_le (hMow b h) j1.size) (hgl2.grow j1.size (hhW W1 j1)) (hdom gg) (hx0 _ (hids gg)) hsubMo hm.inj j2;generalize hM1 : (fun b => Mo b ∧ ¬ ∃ id ow, ρ id = some (some ow) ∧ ow.b = b) = M1 at *
  have ha1 : ARel (E.turn lp (m gg) x0) W1 M1 ⟨n, upd p (.g (.lit (enc x))) t, m gg⟩ { tmps := (a.put (some p) (enc x)).tmps, defers := [] } W1 := by
   refine ⟨fun _ => rfl, by rw [size_put]; exact ha.size, ρ, mr1, Marks.nil, fun i => ?_⟩;rw [o1];show TRel W1 Mo ρ (upd p (.g (.lit (enc x))) t i) ((a.put (some p) (enc x)).tmps.getD i undef);rw [getD_put a (some p) (enc x) (fun d h => by cases h; rw [ha.size]; exact hp), upd_eq]
   by_cases hpi : p = i
   ·rw [if_pos hpi, if_pos (by rw [hpi])]; exact rfl
   ·rw [if_neg hpi, if_neg (fun h => hpi (by cases h; rfl))]; exact htW W1 j1 i
  refine wpIn_mono (hassign pre x post gg hxs hI lp W1 M1 x0 _ W1 ha1) ?_;rintro e a1 W2 ⟨s', ha2, rfl, rfl⟩;obtain ⟨ρ2, hm2, _, ht2⟩ := ha2.ex
  have hnl : ¬ (E.turn lp (m gg) x0).lent lp := fun h => by obtain ⟨id, ow, h1, h2⟩ := (l1 _).1 h; have := hρlt id ow h1; omega
  have hnD : ¬ (E.turn lp (m gg) x0).lent D := fun h => by obtain ⟨id, ow, h1, h2⟩ := (l1 _).1 h; have := hρlt id ow h1; omega
  have e3 : W2.heap[lp]? = some (.loop (rec .ready none)) := (hm2.below.block lp hlpW1 hnl).trans j3;have e4 : W2.heap[D]? = some (.deferred (some [])) := (hm2.below.block D (by omega) hnD).trans j4;refine ⟨_, run_beginRound e3 (by rw [hrec]), ?_⟩;have hlpW2 : lp < W2.heap.size := Nat.lt_of_lt_of_le hlpW1 hm2.below.size;have hρ2 : ∀ id y, ρ id = some y → ρ2 id = some y := fun id y h => hm2.keep id y ((lookO_mapk x0).2 ⟨hdom gg id y h, by simp only [x0, h, Option.getD_some]⟩)
  have hne2 : ∀ id ow, ρ2 id = some (some ow) → ow.b ≠ lp := fun id ow h e => by
   rcases (hm2.fresh id ow h).1 with g | g
   ·omega
   ·exact hnl (e ▸ g)
  have hne2D : ∀ id ow, ρ2 id = some (some ow) → ow.b ≠ D := fun id ow h e => by
   rcases (hm2.fresh id ow h).1 with g | g
   ·omega
   ·exact hnD (e ▸ g)
  have hMM : ∀ b, Mo b → owned M1 ρ2 b := fun b h => by
   rw [← o1] at h
   rcases h with h | ⟨id, ow, h, rfl⟩
   ·exact .inl h
   ·exact .inr ⟨id, ow, hρ2 id _ h, rfl⟩
  have hh2 : ∀ b, b < W2.heap.size → ¬ owned M1 ρ2 b → (W2.putObj lp (.loop { rec .ready none with state := .busy })).heap[b]? = W2.heap[b]? := fun b _ hno =>
   World.putObj_heap_other fun e => hno (by rw [e]; exact hMM lp (.inr (.inr rfl)))
  have hx2 : ∀ id blk, lookO (S1 gg x).mem id = some blk → ρ2 id = some ((ρ2 id).getD none) := fun id blk h => by
   obtain ⟨y, hy⟩ := (hm2.blk id blk h).has (List.all_eq_true.1 (hlive1 gg x) _ (lookO_mem _ h));rw [hy]; rfl
  obtain ⟨o2, l2, mr2⟩ := mrel_turn (E := E) (x := fun id => (ρ2 id).getD none) lp (mem := (S1 gg x).mem) (W := W2.putObj lp (.loop { rec .ready none with state := .busy })) (Mo := owned M1 ρ2) (fun b h => by rw [put_size]; exact hm2.lt b h)
   (GlOk.grow (E := E) hm2.glob (by rw [put_size]; exact Nat.le_refl _) hh2) hm2.dom hx2 (fun id ow h => .inr ⟨id, ow, h, rfl⟩) hm2.inj
   (fun id blk hb => (hm2.blk id blk hb).mono none (by simp) (noref_none _) (fun ow ho => World.putObj_heap_other (hne2 id ow ho)) hh2 (fun _ _ h => h) (fun _ _ _ => rfl))
  generalize hM2 : (fun b => owned M1 ρ2 b ∧ ¬ ∃ id ow, ρ2 id = some (some ow) ∧ ow.b = b) = M2 at *;have had : a1.defers = [] := ha2.defers rfl
  have ha3 : ARel (E.turn lp (S1 gg x).mem fun id => (ρ2 id).getD none) (W2.putObj lp (.loop { rec .ready none with state := .busy })) M2 (S1 gg x) a1 (W2.putObj lp (.loop { rec .ready none with state := .busy })) := by
   refine ⟨fun _ => had, ha2.size, ρ2, mr2, by rw [had]; exact Marks.nil, fun i => ?_⟩;rw [o2];exact (ht2 i).mono none (by cases (S1 gg x).get i <;> rfl) hh2 (fun _ _ h => h) (fun _ _ _ => rfl)
  refine wpIn_mono (hbody pre x post gg hxs hI lp _ M2 _ a1 _ ha3) ?_;rintro e2 a2 W3 ⟨s3, ha4, hq⟩;obtain ⟨ρ3, hm3, _, _⟩ := ha4.ex
  have hnl2 : ¬ (E.turn lp (S1 gg x).mem fun id => (ρ2 id).getD none).lent lp := fun h => by obtain ⟨id, ow, h1, h2⟩ := (l2 _).1 h; exact hne2 id ow h1 h2
  have hnD2 : ¬ (E.turn lp (S1 gg x).mem fun id => (ρ2 id).getD none).lent D := fun h => by obtain ⟨id, ow, h1, h2⟩ := (l2 _).1 h; exact hne2D id ow h1 h2
  have f3 : W3.heap[lp]? = some (.loop { rec .ready none with state := .busy }) := (hm3.below.block lp (by rw [put_size]; exact hlpW2) hnl2).trans (World.putObj_heap_same hlpW2);have f4 : W3.heap[D]? = some (.deferred (some [])) := (hm3.below.block D (by rw [put_size]; omega) hnD2).trans ((World.putObj_heap_other (by omega)).trans e4)
  have b13 : BelowX L W1 W3 := by
   have hb := hm3.below;have hb2 := hm2.below;refine ⟨hb.os.trans hb2.os, hb.tape.trans hb2.tape, hb.output.trans hb2.output, by have := hb.size; rw [put_size] at this; exact Nat.le_trans hb2.size this, fun k hk hl => ?_⟩;refine (hb.block k (by rw [put_size]; exact Nat.lt_of_lt_of_le hk hb2.size) ?_).trans ((World.putObj_heap_other fun e => hl (.inl e)).trans (hb2.block k hk fun h => hl (.inr ((l1 k).1 h))));intro h;obtain ⟨id, ow, h1, rfl⟩ := (l2 _).1 h
   rcases (hm2.fresh id ow h1).1 with g | g
   ·omega
   ·exact hl (.inr ((l1 _).1 g))
  have fin : ∀ (mx : Mem) (jump : Option Code), sameIds (m g0) mx → goodM mx = true → MemL s3 mx →
    ∃ W4, (Instr.endRound lp jump).run E.P W3 = .ok (.bool jump.isNone) W4 ∧ BelowX Mo W1 W4 ∧ Jm ρ Mo lp D w2 (.loop (rec (if jump.isNone then .ready else .done) jump)) mx W4 := by
   intro mx jump hs hgd hml;have hr := run_endRound (P := E.P) jump f3
   have hrr : ({ ({ rec .ready none with state := .busy } : Loop) with state := if jump.isNone then .ready else .done, pending := jump } : Loop) = rec (if jump.isNone then .ready else .done) jump := by rw [hrec]
   rw [hrr] at hr;have b14 : BelowX L W1 (W3.putObj lp (.loop (rec (if jump.isNone then .ready else .done) jump))) := b13.trans (put_belowX _ _ _ (.inl rfl));refine ⟨_, hr, b14.mono hLMo, j1.trans b14, fun id blk hb => ?_, World.putObj_heap_same (Array.getElem?_eq_some_iff.1 f3).1, (World.putObj_heap_other (by omega)).trans f4⟩;have hρid := hx0 mx hs id blk hb;have hρ2id := hρ2 id _ hρid;have hρ3 : ∀ id y, ρ2 id = some y → ρ3 id = some y := fun id y h => hm3.keep id y ((lookO_mapk (fun id => (ρ2 id).getD none)).2 ⟨hm2.dom id y h, by simp only [h, Option.getD_some]⟩)
   have hsub3 : ∀ b, Mo b → owned M2 ρ3 b := fun b h => by
    have h1 := hMM b h;rw [← o2] at h1
    rcases h1 with h1 | ⟨id, ow, h1, rfl⟩
    ·exact .inl h1
    ·exact .inr ⟨id, ow, hρ3 id _ h1, rfl⟩
   have hgr2 := List.all_eq_true.1 hgd _ (lookO_mem _ hb);simp only [Bool.and_eq_true] at hgr2;have h5 : BRel W3 Mo ρ id blk := BRel.ground hgr2.2 (hρid.trans (hρ3 id _ hρ2id).symm) ((hm3.blk id blk (memL_look hml id blk hb)).sub hsub3);exact h5.mono none (by simp) (noref_none _) (fun ow ho => World.putObj_heap_other (by have := hρlt id ow ho; omega)) (fun b _ hno => World.putObj_heap_other fun e => hno (.inr (.inr e))) (fun _ _ h => h) (fun _ _ _ => rfl)
  cases e2 with
  | normal =>
   obtain ⟨g', hI', hq⟩ := hq;obtain ⟨W4, g1, g2, g3⟩ := fin (m g') none (hids _) (hgood _) hq;exact ⟨_, W4, g1, g2, .inl ⟨rfl, g', hI', g3⟩⟩
  | ret =>
   obtain ⟨mx, q1, q2, q3, q4⟩ := hq;obtain ⟨W4, g1, g2, g3⟩ := fin mx (some .ret) q2 q3 q4;exact ⟨_, W4, g1, g2, .inr ⟨rfl, _, mx, q1, q2, g3⟩⟩
  | exit id =>
   obtain ⟨mx, q1, q2, q3, q4⟩ := hq;obtain ⟨W4, g1, g2, g3⟩ := fin mx (some (.exit id)) q2 q3 q4;exact ⟨_, W4, g1, g2, .inr ⟨rfl, _, mx, q1, q2, g3⟩⟩
  | _ => exact hq.elim
 ·-- AT THE START
  refine ⟨g0, hg0, BelowX.refl _ w2, fun id blk hb => ?_, hL, hD⟩;exact (hm.blk id blk hb).mono none (by simp) (noref_none _) (fun ow ho => hgr.block _ (by have := hρlt id ow ho; omega)) hgr.hh hMoSub (fun _ _ _ => rfl)
 ·-- BEHIND THE ITERATOR
  rintro e W' ⟨⟨v, rfl⟩, ⟨gg, hI, hJ⟩ | ⟨pre, hpre, c, mx, q1, q2, hJ⟩⟩
  ·refine ⟨none, _, ?_, _, back _ _ _ _ (hids gg) hJ, hdone gg hI⟩;have := run_endLoop (P := E.P) hJ.2.2.1 (by rw [hrec]; simp);rw [this, hrec]
  ·have hl := run_endLoop (P := E.P) hJ.2.2.1 (by rw [hrec]; simp);have hb := hstop c pre mx hpre q1 _ _ (back _ _ _ _ q2 hJ);rw [hF] at hb
   have hpe : (rec .done (some c)).pending = some c := by rw [hrec]
   refine ⟨some c, _, ?_, hb⟩;rw [hl];subst hrec
   rfl
end
section
variable {E : Env} {w0 : World} {M0 : Nat → Prop}
theorem cells_taken {w : World} {D : Nat} (hD : w.heap[D]? = some (.deferred (some []))) (o : Obj) : CellsAs w (w.putObj D o) := by
 intro a v h
 by_cases hb : a.block = D
 ·unfold World.cell? at h;rw [hb, hD] at h
  cases h
 ·unfold World.cell? at h ⊢;rw [World.putObj_heap_other hb];exact h
def G.inert (r : G) : Prop := ∀ (w : World) M u D o, r.p w M u → w.heap[D]? = some (.deferred (some [])) → r.p (w.putObj D o) M u
theorem inert_lit (v : Value) : (G.lit v).inert := fun _ _ _ _ _ h _ => h
theorem fits_inert : ∀ {cs : List G}, (∀ c ∈ cs, c.inert) → ∀ {w : World} {M : Nat → Prop} {vs : List Value} {D : Nat} {o : Obj}, Fits w M cs vs → w.heap[D]? = some (.deferred (some [])) → Fits (w.putObj D o) M cs vs
 | [], _, _, _, [], _, _, h, _ => h
 | c :: cs, hc, w, M, v :: vs, D, o, h, hD => ⟨⟨hc c List.mem_cons_self _ _ _ _ _ h.1.1 hD, h.1.2⟩, fits_inert (fun x hx => hc x (List.mem_cons_of_mem _ hx)) h.2 hD⟩
 | [], _, _, _, _ :: _, _, _, h, _ => h.elim
 | _ :: _, _, _, _, [], _, _, h, _ => h.elim
theorem fitsT_inert : ∀ {cs : List G}, (∀ c ∈ cs, c.inert) → ∀ {w : World} {M : Nat → Prop} {vs : List Value} {D : Nat} {o : Obj}, FitsT w M cs vs → w.heap[D]? = some (.deferred (some [])) → FitsT (w.putObj D o) M cs vs
 | [], _, _, _, [], _, _, h, _ => h
 | c :: cs, hc, w, M, v :: vs, D, o, h, hD => ⟨hc c List.mem_cons_self _ _ _ _ _ h.1 hD, fitsT_inert (fun x hx => hc x (List.mem_cons_of_mem _ hx)) h.2 hD⟩
 | [], _, _, _, _ :: _, _, _, h, _ => h.elim
 | _ :: _, _, _, _, [], _, _, h, _ => h.elim
theorem inert_agg {cs : List G} (h : ∀ c ∈ cs, c.inert) : (G.agg cs).inert := fun _ _ _ _ _ ⟨vs, h1, h2⟩ hD => ⟨vs, h1, fits_inert h h2 hD⟩
theorem inert_tup {cs : List G} (h : ∀ c ∈ cs, c.inert) : (G.tup cs).inert := fun _ _ _ _ _ ⟨vs, h1, h2⟩ hD => ⟨vs, h1, fitsT_inert h h2 hD⟩
theorem inert_nil : ∀ c ∈ ([] : List G), c.inert := fun _ h => by cases h
theorem inert_cons {c : G} {cs : List G} (h : c.inert) (hs : ∀ c ∈ cs, c.inert) : ∀ x ∈ c :: cs, x.inert := fun x hx => by
 rcases List.mem_cons.1 hx with rfl | hx
 ·exact h
 ·exact hs x hx
theorem leaves_marks {P : Program} {fn : Func} {tmps : Array Value} {w : World} {M : Nat → Prop} {r : G} {v : Value} (hin : r.inert) : ∀ (ds : List Deferred) (w1 : World), ds.Nodup →
  (∀ d ∈ ds, ∃ D, d = { target := .collected D, args := #[] } ∧ w.heap.size ≤ D ∧ w1.heap[D]? = some (.deferred (some []))) → Grow w w1 → (∀ w', CellsAs w1 w' → (results fn tmps).run P w' = .ok v w') → r.p w1 M v →
  LeavesInM Fence.wide 0 P fn tmps (fun e w'' => ∃ v, e = .returned v ∧ Grow w w'' ∧ r.p w'' M v) ds .returning w1
 | [], w1, _, _, hg, hr, hp => ⟨v, hr w1 (fun _ _ h => h), v, rfl, hg, hp⟩
 | d :: ds, w1, hn, hd, hg, hr, hp => by
  obtain ⟨D, rfl, hlt, hD⟩ := hd _ List.mem_cons_self;obtain ⟨hn1, hn2⟩ := List.nodup_cons.1 hn;refine ⟨by simp, .inl ⟨D, _, rfl, run_takeDeferred hD, ?_⟩⟩;refine leaves_marks hin ds _ hn2 (fun d' hd' => ?_) ?_ (fun w' hw => hr w' fun a u hu => hw a u (cells_taken hD _ a u hu)) (hin _ _ _ _ _ hp hD)
  ·obtain ⟨D', rfl, hlt', hD'⟩ := hd d' (List.mem_cons_of_mem _ hd');exact ⟨D', rfl, hlt', (World.putObj_heap_other (fun e => hn1 (by rw [← e]; exact hd'))).trans hD'⟩
  ·exact ⟨hg.os, hg.tape, hg.output, by rw [put_size]; exact hg.size, fun k hk => (World.putObj_heap_other (by omega)).trans (hg.block k hk)⟩
def Env.mked (E : Env) : Env := ⟨E.P, E.gl, E.orders, E.bow, E.rnd, true⟩
theorem Con.mked {f : FuncId} {args : List G} {r : G} (h : Con E f args r) : Con E.mked f args r := h
theorem ConB.mked {f : FuncId} {args : List TV} {r : G} {m m' : Mem} (h : ConB E f args m r m') : ConB E.mked f args m r m' := h
theorem con_of_awm {f : FuncId} {fn : Func} {c : Code} {args : List G} {r : G} (hf : E.P.funcs[f]? = some fn) (hb : fn.body = some c) (hn0 : Nat.ble args.length fn.ntmps = true) (hin : r.inert)
  (h : ∀ w0 M0, AWp E.mked w0 M0 c (Done E.mked fn r) ⟨fn.ntmps, initT args, []⟩) (hbw : E.bow = [] := by rfl) (hrn : E.rnd = none := by rfl) : Con E f args r := by
 intro w M vs hM hgl hv;have hn := Nat.le_of_ble_eq_true hn0;have hlen := hv.length
 have hF : E.mked.F = Fence.wide := by unfold Env.F Env.mked; rw [hrn]; rfl
 suffices hci : CallsIn Fence.wide 0 E.P f vs.toArray w (fun e w' => ∃ v, e = .returned v ∧ Grow w w' ∧ r.p w' M v) from callsIn_wide.1 hci
 refine callsIn_of_wp_marks hf hb trivial ?_ rfl
 have ha : ARel E.mked w M ⟨fn.ntmps, initT args, []⟩ { tmps := vs.toArray ++ Array.replicate (fn.ntmps - vs.toArray.size) undef, defers := [] } w := by
  refine ⟨fun _ => rfl, ?_, fun _ => none, ?_, Marks.nil, ?_⟩
  ·simp; omega
  ·refine ⟨BelowX.refl _ w, hM, ?_, ?_, ?_, ?_, (fun id x h => by rw [show E.mked.bow = [] from hbw] at h; cases h), (fun b h => absurd h (lent_nil hbw)), ?_⟩
   ·intro g vs hg;have := hgl g vs hg
    have hiff : ∀ b, owned M (fun _ => none) b → M b := by rintro b (h | ⟨_, _, h, _⟩); exact h; cases h
    exact ⟨⟨fun h => this.1.1 (hiff _ h), this.1.2⟩, this.2.mono (fun _ _ _ => rfl) (fun b _ h => hiff b h) this.1.1⟩
   ·intro _ _ h; cases h
   ·intro _ _ h; cases h
   ·intro _ _ _ _ h; cases h
   ·intro _ _ h; cases h
  ·intro i;have hv' : FitsT w (owned M (fun _ => none)) args vs := hv.mono (fun _ _ _ => rfl) (by rintro b _ (h | ⟨_, _, h, _⟩); exact h; cases h);have := initT_rel (ρ := fun _ => none) (fn.ntmps - vs.length) hv' i;show TRel _ _ _ (initT args i) _;rw [Array.getD_eq_getD_getElem?];rw [show (vs.toArray ++ Array.replicate (fn.ntmps - vs.toArray.size) undef) = (vs ++ List.replicate (fn.ntmps - vs.length) undef).toArray by simp];rw [List.getElem?_toArray];exact this
 have hw := h w M _ w ha;rw [hF] at hw;refine wpIn_mono hw ?_;rintro e a' w' ⟨s', ha', hq⟩
 have fin : ResOk E.mked fn s' r → LeavesInM Fence.wide 0 E.P fn a'.tmps (fun e w'' => ∃ v, e = .returned v ∧ Grow w w'' ∧ r.p w'' M v) a'.defers .returning w' := by
  intro hq;obtain ⟨ρ, hm, hmk, ht⟩ := ha'.ex;obtain ⟨v, h1, h2, h3⟩ := hq.run ρ w' a'.tmps hm ht;have hg : Grow w w' := hm.below.grow (fun _ => lent_nil hbw)
  exact leaves_marks hin a'.defers w' hmk.1 (fun d hd => by
   obtain ⟨D, q1, q2, q3⟩ := hmk.2 d hd
   exact ⟨D, q1, q2, q3.2⟩) hg h3 (r.mono h2 (fun _ _ _ => rfl) (fun _ _ h => .inl h))
 cases e with
 | ret => exact fin hq
 | normal => exact fin hq
 | _ => exact hq.elim
end
section
variable {E : Env} {w0 : World} {M0 : Nat → Prop}
def RoundC {γ : Type} (E : Env) (w0 : World) (M0 : Nat → Prop) (Q : Exit → ASt → Prop) (n : Nat) (t : Nat → TV) (m : γ → Mem) (K : γ → Prop) (m0 : Mem) : Exit → ASt → Prop
 | .normal, s => ∃ g, K g ∧ MemL s (m g)
 | .ret, s => ∃ mx, AWp E w0 M0 .ret Q ⟨n, t, mx⟩ ∧ sameIds m0 mx ∧ goodM mx = true ∧ MemL s mx
 | .exit id, s => ∃ mx, AWp E w0 M0 (.exit id) Q ⟨n, t, mx⟩ ∧ sameIds m0 mx ∧ goodM mx = true ∧ MemL s mx
 | _, _ => False
theorem aw_rangeC {α γ : Type} {gop : Operand} {p : Tmp} {assign body : Code} {Q : Exit → ASt → Prop} {n : Nat} {l : List (Nat × TV)} {gf : FuncId} {caps : List G} {enc : α → Value} {s : ASt}
  (xs : List α) (m : γ → Mem) (K : List α → γ → Prop) (g0 : γ) (S1 : γ → α → (Nat → TV) × Mem)
  (hn : s.n = n) (hwk : WeakL s l) (hwm : MemL s (m g0)) (hcl : closedB l (m g0) = true)
  (hg : ASt.eval E ⟨n, lookT l, m g0⟩ gop = .g (.fn (.func gf) [] caps)) (hk : Known E.P gf) (hseq : Seq E gf caps enc xs)
  (hK0 : K xs g0) (hp : Nat.blt p n = true) (hids : ∀ g, sameIds (m g0) (m g)) (hgood : ∀ g, goodM (m g) = true)
  (hassign : ∀ x g lp w1 M1 x1, AWp (E.turn lp (m g) x1) w1 M1 assign (fun e s' => e = .normal ∧ s' = ⟨n, (S1 g x).1, (S1 g x).2⟩) ⟨n, upd p (.g (.lit (enc x))) (lookT l), m g⟩)
  (hlive1 : ∀ g x, liveM (S1 g x).2 = true)
  (hbody : ∀ x post g, (∃ pre, xs = pre ++ x :: post) → K (x :: post) g → ∀ lp w1 M1 x1, AWp (E.turn lp (S1 g x).2 x1) w1 M1 body (RoundC E w0 M0 Q n (lookT l) m (K post) (m g0)) ⟨n, (S1 g x).1, (S1 g x).2⟩)
  (hdone : ∀ g, K [] g → Q .normal ⟨n, lookT l, m g⟩)
  (hbw : bowIn E (m g0) = true := by rfl) (hmk : E.mks = true := by rfl) (hrn : E.rnd = none := by rfl) : AWp E w0 M0 (.rangeFunc gop #[p] assign body) Q s := by
 refine aw_weak (l := l) hwk hwm hcl ?_ hbw;show AWp E w0 M0 _ Q ⟨s.n, lookT l, m g0⟩;rw [hn];refine aw_rangeFunc m (fun pre g => ∃ tl, xs = pre ++ tl ∧ K tl g) g0 (fun g x => ⟨n, (S1 g x).1, (S1 g x).2⟩) (fun c _ mx => AWp E w0 M0 c Q ⟨n, lookT l, mx⟩) hmk hrn hk (Nat.le_of_ble_eq_true hp) hg hseq ⟨xs, rfl, hK0⟩ hids hgood
  (fun pre x post g _ _ lp w1 M1 x1 => hassign x g lp w1 M1 x1) hlive1 ?_ ?_ (fun _ _ _ _ h => h)
 ·rintro pre x post g hxs ⟨tl, htl, hK⟩ lp w1 M1 x1;obtain rfl : tl = x :: post := List.append_cancel_left (htl.symm.trans hxs);refine (hbody x post g ⟨pre, hxs⟩ hK lp w1 M1 x1).mono ?_;rintro e s' h
  cases e with
  | normal =>
   obtain ⟨g', h1, h2⟩ := h;exact ⟨g', ⟨post, by rw [hxs]; simp, h1⟩, h2⟩
  | ret => exact h
  | exit id => exact h
  | _ => exact h
 ·rintro g ⟨tl, htl, hK⟩
  obtain rfl : tl = [] := by
   have := congrArg List.length htl
   simp at this
   exact this
  exact hdone g hK
end
section
variable {E : Env}
theorem rv_cell1 {s : ASt} {t : Nat} {ty : TypeId} {k id : Nat} {tv : TV} {g : G} (hp : s.get t = .ptr id 0) (hb : lookO s.mem id = some (.box [tv])) (ht : tyK E.P ty = some (k, false)) (hv : viewG s.mem tv = some g) (hbw : viewB E tv = true := by rfl) : RVal E s (.cell t ty) g := by
 intro w0 M0 ρ w tmps hm hx;have h1 := hx t;rw [hp] at h1;obtain ⟨ow, h2, h3⟩ := h1;obtain ⟨ow', e, vs, g1, g2, g3, g4⟩ := hm.blk id _ hb
 have : ow' = ow := by rw [h2] at g1; simpa using g1.symm
 subst this;obtain ⟨v, h4, h5, _⟩ := TFits.get 0 g4 rfl
 have hc : w.cell? ⟨ow'.b, ow'.o + 0, none⟩ = some v := by rw [cell_of_row w _ _ _ _ _ g3, g2]; simpa using h4
 refine ⟨v, ?_, view_rel hm h5 hv (msub_res hm hbw), ?_⟩
 ·simp only [rvSem, h3, asAddr, Sem.run_bind, Sem.run_pure, Result.andThen_ok];exact run_loadVar_one ht hc
 ·intro w' hw;simp only [rvSem, h3, asAddr, Sem.run_bind, Sem.run_pure, Result.andThen_ok];exact run_loadVar_one ht (hw _ _ hc)
end
section
def SeqN (E : Env) (g : FuncId) (caps : List G) {α : Type} (enc : α → Value) (xs : List α) : Prop :=
 ∀ (w : World) (M : Nat → Prop) (cs : List Value) (l : Nat) (J : (Nat → Prop) → List α → Bool → World → Prop), (∀ b, M b → b < w.heap.size) → GlOk E w M → FitsT w M caps cs →
  (∀ N pre st W W', J N pre st W → BelowX N W W' → J N pre st W') → (∀ N N' pre st W, J N pre st W → (∀ b, N' b → N b ∨ W.heap.size ≤ b) → J N' pre st W) →
  (∀ N pre x post W1, xs = pre ++ x :: post → BelowX M w W1 → (∀ b, N b → w.heap.size ≤ b ∧ b < W1.heap.size) → J N pre false W1 → YieldAt Fence.wide 0 E.P l #[enc x] W1 fun e W' =>
   BelowX M W1 W' ∧ ∃ b, e = .returned (.bool b) ∧ J N (pre ++ [x]) (!b) W') →
  J (fun _ => False) [] false w → CallsIn Fence.wide 0 E.P g (#[.func (.yield l) #[] #[]] ++ cs.toArray) w fun e W' => (∃ v, e = .returned v) ∧ (J (fun _ => False) xs false W' ∨ ∃ pre, J (fun _ => False) pre true W')
theorem BelowX.none {L : Nat → Prop} {a b : World} (h : Grow a b) : BelowX L a b := BelowX.of_grow h
structure ItC (P : Program) {α : Type} (l : Nat) (enc : α → Value) (xs : List α) where
 w : World
 lo : Nat
 M : Nat → Prop
 J : (Nat → Prop) → List α → Bool → World → Prop
 N0 : Nat → Prop
 hM : ∀ b, M b → b < lo
 hlo : lo ≤ w.heap.size
 turn : ∀ N pre st W W', J N pre st W → BelowX N W W' → J N pre st W'
 take : ∀ N N' pre st W, J N pre st W → (∀ b, N' b → N b ∨ W.heap.size ≤ b) → J N' pre st W
 yield : ∀ N pre x post W1, xs = pre ++ x :: post → BelowX M w W1 → (∀ b, N b → lo ≤ b ∧ b < W1.heap.size) → J N pre false W1 → YieldAt Fence.wide 0 P l #[enc x] W1 fun e W' =>
   BelowX M W1 W' ∧ ∃ b, e = .returned (.bool b) ∧ J N (pre ++ [x]) (!b) W'
def ItC.at {P : Program} {α : Type} {l : Nat} {enc : α → Value} {xs : List α} (C : ItC P l enc xs) (w' : World) (h : BelowX C.M C.w w') (N0 : Nat → Prop) : ItC P l enc xs :=
 ⟨w', C.lo, C.M, C.J, N0, C.hM, Nat.le_trans C.hlo h.size, C.turn, C.take, fun N pre x post W1 hx hB hN hJ => C.yield N pre x post W1 hx (h.trans hB) hN hJ⟩
def MarksN (N : Nat → Prop) (ds : List Deferred) (W : World) : Prop := ds.Nodup ∧ ∀ d ∈ ds, ∃ D, d = { target := .collected D, args := #[] } ∧ N D ∧ W.heap[D]? = some (.deferred (some []))
variable {α : Type} {E : Env} {l : Nat} {enc : α → Value} {xs : List α}
def IRel (E : Env) {l : Nat} {enc : α → Value} {xs : List α} (C : ItC E.P l enc xs) (s : ASt) (p : List α × Bool) (a : Act) (W : World) : Prop :=
 ∃ N W1, C.J N p.1 p.2 W1 ∧ (∀ b, N b → C.lo ≤ b ∧ b < W1.heap.size) ∧ BelowX C.M C.w W1 ∧ MarksN N a.defers W1 ∧ ARel E W1 (fun b => C.M b ∨ N b) s ⟨a.tmps, []⟩ W ∧ ∀ b, C.N0 b → N b
def IWp (E : Env) {l : Nat} {enc : α → Value} {xs : List α} (C : ItC E.P l enc xs) (c : Code) (Q : Exit → ASt → List α × Bool → Prop) (s : ASt) (p : List α × Bool) : Prop :=
 ∀ a W, IRel E C s p a W → c.wpIn E.F 0 E.P (fun e a' W' => ∃ s' p', IRel E C s' p' a' W' ∧ Q e s' p') a W
def ithen (K : ASt → List α × Bool → Prop) (Q : Exit → ASt → List α × Bool → Prop) : Exit → ASt → List α × Bool → Prop
 | .normal, s, p => K s p
 | e, s, p => Q e s p
def iblock (id : Nat) (Q : Exit → ASt → List α × Bool → Prop) : Exit → ASt → List α × Bool → Prop
 | .exit id', s, p => if id' = id then Q .normal s p else Q (.exit id') s p
 | e, s, p => Q e s p
variable {C : ItC E.P l enc xs} {Q : Exit → ASt → List α × Bool → Prop} {s : ASt} {p : List α × Bool}
theorem iw_seq {x y : Code} (h : IWp E C x (ithen (IWp E C y Q) Q) s p) : IWp E C (.seq x y) Q s p :=
 fun a w ha => wpIn_seq (wpIn_mono (h a w ha) fun e a' w' ⟨s', p', h1, h2⟩ => by
  cases e <;> first | exact h2 a' w' h1 | exact ⟨s', p', h1, h2⟩)
theorem iw_skip (h : Q .normal s p) : IWp E C .skip Q s p := fun _ _ ha => wpIn_skip ⟨s, p, ha, h⟩
theorem iw_ret (h : Q .ret s p) : IWp E C .ret Q s p := fun _ _ ha => wpIn_ret ⟨s, p, ha, h⟩
theorem iw_exit {id : Nat} (h : Q (.exit id) s p) : IWp E C (.exit id) Q s p := fun _ _ ha => wpIn_exit ⟨s, p, ha, h⟩
theorem iw_block {id : Nat} {c : Code} (h : IWp E C c (iblock id Q) s p) : IWp E C (.block id c) Q s p :=
 fun a w ha => wpIn_block (wpIn_mono (h a w ha) fun e a' w' ⟨s', p', h1, h2⟩ => by
  cases e with
  | exit id' =>
   unfold iblock at h2;unfold Exit.inBlock;dsimp only at h2 ⊢
   split
   ·rename_i he; rw [if_pos he] at h2; exact ⟨s', p', h1, h2⟩
   ·rename_i he; rw [if_neg he] at h2; exact ⟨s', p', h1, h2⟩
  | _ => exact ⟨s', p', h1, h2⟩)
theorem iw_cond {c : Operand} {x y : Code} (b : Bool) (hb : s.eval E c = .g (.lit (.bool b))) (ht : b = true → IWp E C x Q s p) (hf : b = false → IWp E C y Q s p) : IWp E C (.cond c x y) Q s p := by
 intro a w ha;obtain ⟨N, W1, h1, h2, h3, h4, h5, h6⟩ := id ha;obtain ⟨ρ, _, hx⟩ := h5.rel;have hc := hx c;rw [hb] at hc;have hc' : a.eval c = .bool b := hc
 cases b with
 | true => exact wpIn_cond_true hc' (ht rfl a w ha)
 | false => exact wpIn_cond_false hc' (hf rfl a w ha)
theorem IRel.weak {l1 : List (Nat × TV)} {m : Mem} {a : Act} {w : World} (h1 : WeakL s l1) (h2 : MemL s m) (h3 : closedB l1 m = true) (hbw : E.bow = []) (h : IRel E C s p a w) : IRel E C (stt s.n l1 m) p a w := by
 obtain ⟨N, W1, k1, k2, k3, k4, k5, k6⟩ := h;exact ⟨N, W1, k1, k2, k3, k4, k5.weak h1 h2 h3 (by unfold bowIn; rw [hbw]; rfl), k6⟩
theorem iw_weak {c : Code} {l1 : List (Nat × TV)} {m : Mem} (h1 : WeakL s l1) (h2 : MemL s m) (h3 : closedB l1 m = true) (h : IWp E C c Q (stt s.n l1 m) p) (hbw : E.bow = [] := by rfl) : IWp E C c Q s p :=
 fun a w ha => h a w (ha.weak h1 h2 h3 hbw)
def IGoes {γ : Type} (S : γ → List (Nat × TV)) (Pp : γ → List α × Bool) (P : γ → Prop) (n : Nat) (ok : γ → Prop) (s : ASt) (p : List α × Bool) : Prop := s.n = n ∧ ∃ g, WeakL s (S g) ∧ closedB (S g) [] = true ∧ p = Pp g ∧ P g ∧ ok g
theorem iw_loop_g {γ : Type} {c : Code} (S : γ → List (Nat × TV)) (Pp : γ → List α × Bool) (P : γ → Prop) (μ : γ → Nat) (h0 : IGoes S Pp P s.n (fun _ => True) s p)
  (round : ∀ g, P g → IWp E C c (ithen (IGoes S Pp P s.n (fun g' => μ g' < μ g)) Q) (stt s.n (S g) []) (Pp g)) (hbw : E.bow = [] := by rfl) : IWp E C (.loop c) Q s p := by
 intro a w ha;obtain ⟨_, g0, h1, h3, rfl, h4, _⟩ := h0;have ha' := ha.weak h1 (m := []) trivial h3 hbw;refine wpIn_loop_ghost (fun n a w => ∃ g, μ g = n ∧ P g ∧ IRel E C (stt s.n (S g) []) (Pp g) a w) (μ g0) ⟨g0, rfl, h4, ha'⟩ ?_;rintro n a w ⟨g, rfl, hP, hg⟩;refine wpIn_mono (round g hP a w hg) ?_;rintro e a' w' ⟨s', p', hs', hq⟩
 cases e with
 | normal =>
  obtain ⟨k0, g', k1, k3, rfl, k4, k5⟩ := hq;refine ⟨μ g', k5, g', rfl, k4, ?_⟩;have := hs'.weak k1 (m := []) trivial k3 hbw;rw [k0] at this;exact this
 | _ => exact ⟨s', p', hs', hq⟩
theorem wpIn_frame {F : Fence} {n : Nat} {P : Program} {o : Oper} {a : Act} {w : World} {K : Act → World → Prop} {Q' : Exit → Act → World → Prop}
  (h : o.wpIn F n P ⟨a.tmps, []⟩ w (fun a' w' => a'.defers = [] ∧ K ⟨a'.tmps, a.defers⟩ w') (fun _ _ _ => False)) : o.wpIn F n P a w K Q' := by
 obtain ⟨h1, h2⟩ := h;refine ⟨h1, ?_⟩;have h2 : o.uponIn F n P ⟨a.tmps, []⟩ (fun a' w' => a'.defers = [] ∧ K ⟨a'.tmps, a.defers⟩ w') (fun _ _ _ => False) ((o.semAt F.round a.eval).run P w) := h2
 have hput : ∀ v, (⟨((⟨a.tmps, []⟩ : Act).put o.dst v).tmps, a.defers⟩ : Act) = a.put o.dst v := fun v => by cases o.dst <;> rfl
 have hp : ∀ v w', (fun (a' : Act) (w' : World) => a'.defers = [] ∧ K ⟨a'.tmps, a.defers⟩ w') ((⟨a.tmps, []⟩ : Act).put o.dst v) w' → K (a.put o.dst v) w' := fun v w' h => by
  have := h.2;rw [hput] at this;exact this
 generalize (o.semAt F.round a.eval).run P w = res at *
 cases res with
 | halt x w' =>
  cases x <;> exact h2.elim
 | ok n w' =>
  cases n with
  | value v => exact hp _ _ h2
  | skip => exact hp _ _ h2
  | defer d =>
   have := h2.1
   exfalso
   cases hd : o.dst <;> simp [Act.put, hd] at this
  | enter f args =>
   obtain ⟨h3, h4⟩ := h2;refine ⟨h3, h4.mono ?_⟩;intro e w'' h
   cases e with
   | returned v => exact hp _ _ h
   | panicked c => exact h.elim
   | outgrown => obtain ⟨_, _, h⟩ := h; exact h.elim
  | row r args =>
   obtain ⟨h3, h4⟩ := h2;exact ⟨h3, RowsIn.mono h4 (fun v w'' h => hp _ _ h)⟩
  | round l' f tmps assign body =>
   obtain ⟨h3, h4⟩ := h2;refine ⟨h3, h4.mono ?_⟩;intro e w'' h
   cases e with
   | returned v => exact hp _ _ h
   | panicked c => exact h.elim
   | outgrown => obtain ⟨_, _, h⟩ := h; exact h.elim
  | _ => exact h2.elim
theorem IRel.step {ops : Array Oper} {o : Oper} {c : Cls} {s' : ASt} (h : AStep E ops o c s s') (hmk : E.mks = false) {a : Act} {w : World} (ha : IRel E C s p a w) {K : Act → World → Prop} {Q' : Exit → Act → World → Prop}
  (hK : ∀ a' w', IRel E C s' p a' w' → K a' w') :
  if Region.wanted o (yielded ops a.tmps) then o.wpIn E.F 0 E.P a w K Q' else (∀ f, o.about E.P w a.eval = some f → E.F.fn f) ∧ K (a.put o.dst undef) w := by
 obtain ⟨N, W1, k1, k2, k3, k4, k5, k6⟩ := ha
 have hs := h.sound (w0 := W1) (M0 := fun b => C.M b ∨ N b) k5 (K := fun a' w' => a'.defers = [] ∧ K ⟨a'.tmps, a.defers⟩ w') (Q := fun _ _ _ => False) (fun a' w' h' => by
  have hd := h'.defers hmk;refine ⟨hd, hK _ _ ⟨N, W1, k1, k2, k3, k4, ?_, k6⟩⟩;obtain ⟨t, d⟩ := a';simp only at hd;subst hd
  exact h')
 have hput : ∀ v, (⟨((⟨a.tmps, []⟩ : Act).put o.dst v).tmps, a.defers⟩ : Act) = a.put o.dst v := fun v => by cases o.dst <;> rfl
 have hs : if Region.wanted o (yielded ops a.tmps) then o.wpIn E.F 0 E.P ⟨a.tmps, []⟩ w (fun a' w' => a'.defers = [] ∧ K ⟨a'.tmps, a.defers⟩ w') (fun _ _ _ => False) else (∀ f, o.about E.P w a.eval = some f → E.F.fn f) ∧
  (fun (a' : Act) (w' : World) => a'.defers = [] ∧ K ⟨a'.tmps, a.defers⟩ w') ((⟨a.tmps, []⟩ : Act).put o.dst undef) w := hs
 split
 ·rename_i hw
  rw [if_pos hw] at hs;exact wpIn_frame hs
 ·rename_i hw
  rw [if_neg hw] at hs;have := hs.2.2;rw [hput] at this;exact ⟨hs.1, this⟩
theorem roundIn_env {E : Env} {f : FuncId} {tmps : Array Value} {assign body : Code} {w : World} {R : Ending → World → Prop} {l : Nat} (h : RoundIn Fence.wide 0 E.P l f tmps assign body w R) : RoundIn E.F 0 E.P l f tmps assign body w R := by
 obtain ⟨P, gl, ord, bow, rnd, mk⟩ := E
 cases rnd with
 | none => exact h
 | some l => exact h
theorem IRel.yield {o : Oper} {f arg : Operand} {ts : Array TypeId} {x : α} {post : List α} (hd : ∀ d, o.dst = some d → d < s.n) (ho : o.op = .call ⟨.value f, #[arg], ts⟩) (hp : p.2 = false) (hm0 : s.mem = [])
  (hf : s.eval E f = .g (G.lit (.func (.yield l) #[] #[]))) (harg : ∀ w M ρ v, TRel w M ρ (s.eval E arg) v → v = enc x) (hx : xs = p.1 ++ x :: post) (hbw : E.bow = []) {a : Act} {W : World} (ha : IRel E C s p a W)
  {K : Act → World → Prop} {Q' : Exit → Act → World → Prop} (hK : ∀ b a' W', IRel E C (s.put o.dst (.g (G.bool b))) (p.1 ++ [x], !b) a' W' → K a' W') : o.wpIn E.F 0 E.P a W K Q' := by
 obtain ⟨N, W1, k1, k2, k3, k4, k5, k6⟩ := ha;obtain ⟨ρ, hm, _, ht⟩ := k5.ex;have hg : Grow W1 W := hm.below.grow (fun _ => lent_nil hbw);have hev := fun y => eval_rel hm ht y
 have e1 : a.eval f = .func (.yield l) #[] #[] := by
  have := hev f;rw [hf] at this;exact this
 have e2 : a.eval arg = enc x := harg _ _ _ _ (hev arg);have hB : BelowX C.M C.w W := k3.trans (BelowX.of_grow hg)
 have hJ : C.J N p.1 false W := by
  rw [← hp];exact C.turn _ _ _ _ _ k1 (BelowX.of_grow hg)
 obtain ⟨fn, tmps, assign, body, y1, y2⟩ := C.yield N p.1 x post W hx hB (fun b hb => ⟨(k2 b hb).1, Nat.lt_of_lt_of_le (k2 b hb).2 hg.size⟩) hJ;refine ⟨fun _ _ => trivial, ?_⟩
 have hsem : o.semAt E.F.round a.eval = execOp a.eval o := by
  cases E.F.round with
  | none => rfl
  | some l' => exact Oper.semAt_some _ _ _ fun c hc => by rw [ho] at hc; cases hc
 have hrun : (execOp a.eval o).run E.P W = .ok (.round l fn tmps assign body) W := by
  simp [execOp, ho, resolve, e1, e2, Deferred.ofValue, invoke, y1]
 rw [hsem, hrun];refine ⟨env_room, (roundIn_env y2).mono ?_⟩;rintro e W' ⟨hB', b, rfl, hJ'⟩;refine hK b _ _ ⟨N, W', hJ', fun b hb => ⟨(k2 b hb).1, Nat.lt_of_lt_of_le (k2 b hb).2 (Nat.le_trans hg.size hB'.size)⟩, hB.trans hB', ?_, ?_, k6⟩
 ·rw [defers_put];refine ⟨k4.1, fun d hd => ?_⟩;obtain ⟨D, q1, q2, q3⟩ := k4.2 d hd;have hlt := (k2 D q2).2;exact ⟨D, q1, q2, (hB'.block D (Nat.lt_of_lt_of_le hlt hg.size) (fun h => by have := C.hM D h; have := (k2 D q2).1; omega)).trans ((hg.block D hlt).trans q3)⟩
 ·have hρ : ρ = fun _ => none := by
   funext id
   cases hq : ρ id with
   | none => rfl
   | some x =>
    obtain ⟨blk, hb⟩ := hm.dom id x hq;rw [hm0] at hb
    cases hb
  subst hρ;have hh : ∀ b, b < W.heap.size → ¬ owned (fun b => C.M b ∨ N b) (fun _ => none) b → W'.heap[b]? = W.heap[b]? := fun b hb hno => hB'.block b hb fun h => hno (.inl (.inl h));refine ⟨fun _ => rfl, by rw [size_put]; cases o.dst <;> exact k5.size, fun _ => none, ⟨BelowX.refl _ W', fun b hb => hb.elim (fun hb => Nat.lt_of_lt_of_le (C.hM b hb) (Nat.le_trans C.hlo (hB.trans hB').size)) (fun hb => Nat.lt_of_lt_of_le (k2 b hb).2 (Nat.le_trans hg.size hB'.size)), hm.glob.grow hB'.size hh, (fun _ _ h => by cases h), (fun _ _ h => by cases h), (fun _ _ _ _ h => by cases h), ?_, ?_, ?_⟩, Marks.nil, fun i => ?_⟩
  ·intro id x h; rw [hbw] at h; cases h
  ·intro b h; exact absurd h (lent_nil hbw)
  ·intro id blk hb;have hb : lookO (s.put o.dst (.g (G.bool b))).mem id = some blk := hb;have : (s.put o.dst (.g (G.bool b))).mem = s.mem := rfl;rw [this, hm0] at hb
   cases hb
  ·show TRel _ _ _ ((s.put o.dst (.g (G.bool b))).get i) ((a.put o.dst (.bool b)).tmps.getD i undef);rw [get_put, getD_put _ _ _ (fun d h => by have := hd d h; rw [← k5.size] at this; exact this)]
   split
   ·exact rfl
   ·exact (ht i).mono none (by cases s.get i <;> rfl) hh (fun _ _ h => h) (fun _ _ _ => rfl)
def IStep (E : Env) (l : Nat) (enc : α → Value) (xs : List α) (ops : Array Oper) (o : Oper) (K : ASt → List α × Bool → Prop) (s : ASt) (p : List α × Bool) : Option Cls → Prop
 | some c => ∃ s', AStep E ops o c s s' ∧ K s' p
 | none => (∀ d, o.dst = some d → d < s.n) ∧ ∃ gb, Wanted ops o s gb ∧ (gb = false → K (s.put o.dst undefT) p) ∧ (gb = true → p.2 = false ∧ s.mem = [] ∧ ∃ f arg ts x post, o.op = .call ⟨.value f, #[arg], ts⟩ ∧ s.eval E f = .g (G.lit (.func (.yield l) #[] #[])) ∧
   (∀ w M ρ v, TRel w M ρ (s.eval E arg) v → v = enc x) ∧ xs = p.1 ++ x :: post ∧ ∀ b, K (s.put o.dst (.g (G.bool b))) (p.1 ++ [x], !b))
theorem IStep.sound {ops : Array Oper} {o : Oper} {c : Option Cls} {K' : ASt → List α × Bool → Prop} (h : IStep E l enc xs ops o K' s p c) (hmk : E.mks = false) (hbw : E.bow = []) {a : Act} {w : World} (ha : IRel E C s p a w) {K : Act → World → Prop} {Q' : Exit → Act → World → Prop}
  (hK : ∀ s' p' a' w', K' s' p' → IRel E C s' p' a' w' → K a' w') :
  if Region.wanted o (yielded ops a.tmps) then o.wpIn E.F 0 E.P a w K Q' else (∀ f, o.about E.P w a.eval = some f → E.F.fn f) ∧ K (a.put o.dst undef) w := by
 cases c with
 | some c =>
  obtain ⟨s', h1, h2⟩ := h;exact IRel.step h1 hmk ha fun a' w' h' => hK _ _ _ _ h2 h'
 | none =>
  obtain ⟨hd, gb, hw, hf, ht⟩ := h;obtain ⟨N, W1, k1, k2, k3, k4, k5, k6⟩ := id ha;obtain ⟨ρ, hm, _, hts⟩ := k5.ex;have hwt : Region.wanted o (yielded ops a.tmps) = gb := wanted_of hw hts;rw [hwt]
  cases gb with
  | false =>
   simp only [Bool.false_eq_true, if_false];refine ⟨fun _ _ => trivial, hK _ _ _ _ (hf rfl) ⟨N, W1, k1, k2, k3, by rw [defers_put]; exact k4, ?_, k6⟩⟩;have := ARel.put (r := undefT) (v := undef) (kill := none) (mem' := s.mem) (dst := o.dst) k5.defers k5.size Marks.nil hts hd hm (fun _ _ _ h => h) rfl
   have e : (⟨(a.put o.dst undef).tmps, []⟩ : Act) = (⟨a.tmps, []⟩ : Act).put o.dst undef := by cases o.dst <;> rfl
   rw [e];exact this
  | true =>
   simp only [if_true];obtain ⟨hp, hm0, f, arg, ts, x, post, ho, e1, e2, hx, hk⟩ := ht rfl;exact IRel.yield hd ho hp hm0 e1 e2 hx hbw ha fun b a' W' h' => hK _ _ _ _ (hk b) h'
def IOps (E : Env) (l : Nat) (enc : α → Value) (xs : List α) (ops : Array Oper) (K : ASt → List α × Bool → Prop) : List Oper → List (Option Cls) → ASt → List α × Bool → Prop
 | [], [], s, p => K s p
 | o :: os, c :: cs, s, p => IStep E l enc xs ops o (IOps E l enc xs ops K os cs) s p c
 | _, _, _, _ => False
theorem iops_sound {ops : Array Oper} (hmk : E.mks = false) (hbw : E.bow = []) : ∀ (lo : List Oper) (cs : List (Option Cls)) (s : ASt) (p : List α × Bool), IOps E l enc xs ops (Q .normal) lo cs s p → ∀ a w, IRel E C s p a w →
  wpListIn E.F 0 E.P ops (fun e a' w' => ∃ s' p', IRel E C s' p' a' w' ∧ Q e s' p') lo a w
 | [], [], s, p, h, a, w, ha => ⟨s, p, ha, h⟩
 | o :: os, c :: cs, s, p, h, a, w, ha => IStep.sound h hmk hbw ha fun s' p' a' w' h1 ha' => iops_sound hmk hbw os cs s' p' h1 a' w' ha'
 | [], _ :: _, _, _, h, _, _, _ => h.elim
 | _ :: _, [], _, _, h, _, _, _ => h.elim
theorem aops_isound {ops : Array Oper} (hmk : E.mks = false) : ∀ (lo : List Oper) (cs : List Cls) (s : ASt), AOps E ops lo cs s (fun s' => Q .normal s' p) → ∀ a w, IRel E C s p a w →
  wpListIn E.F 0 E.P ops (fun e a' w' => ∃ s' p', IRel E C s' p' a' w' ∧ Q e s' p') lo a w
 | [], [], s, h, a, w, ha => ⟨s, p, ha, h⟩
 | o :: os, c :: cs, s, h, a, w, ha => by
  obtain ⟨s', h1, h2⟩ := h;exact IRel.step h1 hmk ha fun a' w' ha' => aops_isound hmk os cs s' h2 a' w' ha'
 | [], _ :: _, _, h, _, _, _ => h.elim
 | _ :: _, [], _, h, _, _, _ => h.elim
theorem iw_region {id : Nat} {ops : Array Oper} (cs : List Cls) (h : AOps E ops ops.toList cs s (fun s' => Q .normal s' p)) (hmk : E.mks = false := by rfl) : IWp E C (.region id ops false) Q s p :=
 fun a w ha => wpIn_region_list (aops_isound hmk _ cs s h a w ha)
theorem iw_regionY {id : Nat} {ops : Array Oper} (cs : List (Option Cls)) (h : IOps E l enc xs ops (Q .normal) ops.toList cs s p) (hmk : E.mks = false := by rfl) (hbw : E.bow = [] := by rfl) : IWp E C (.region id ops false) Q s p :=
 fun a w ha => wpIn_region_list (iops_sound hmk hbw _ cs s p h a w ha)
theorem ist {ops : Array Oper} {K : ASt → List α × Bool → Prop} {o : Oper} {os : List Oper} {c : Cls} {cs : List (Option Cls)} (h : AOps E ops [o] [c] s (fun s' => IOps E l enc xs ops K os cs s' p)) : IOps E l enc xs ops K (o :: os) (some c :: cs) s p := by
 obtain ⟨s', h1, h2⟩ := h;exact ⟨s', h1, h2⟩
theorem ist_nil {ops : Array Oper} {K : ASt → List α × Bool → Prop} (h : K s p) : IOps E l enc xs ops K [] [] s p := h
theorem iy {ops : Array Oper} {K : ASt → List α × Bool → Prop} {o : Oper} {os : List Oper} {cs : List (Option Cls)} {d : Nat} {f arg : Operand} {ts : Array TypeId} {pre post : List α} (x : α) (hd : o.dst = some d) (hg : o.guard = none) (hn : Nat.blt d s.n = true)
  (ho : o.op = .call ⟨.value f, #[arg], ts⟩) (hm : s.mem = []) (hf : s.eval E f = .g (G.lit (.func (.yield l) #[] #[]))) (ha : ∀ w M ρ v, TRel w M ρ (s.eval E arg) v → v = enc x) (hx : xs = pre ++ x :: post)
  (h : ∀ b, IOps E l enc xs ops K os cs (s.put (some d) (.g (G.bool b))) (pre ++ [x], !b)) : IOps E l enc xs ops K (o :: os) (none :: cs) s (pre, false) :=
 ⟨fun d' h => by rw [hd] at h; cases h; exact Nat.le_of_ble_eq_true hn, true, (by unfold Wanted; rw [hg]), (fun h => by cases h), fun _ => ⟨rfl, hm, f, arg, ts, x, post, ho, hf, ha, hx, fun b => by rw [hd]; exact h b⟩⟩
theorem iy_g {ops : Array Oper} {K : ASt → List α × Bool → Prop} {o : Oper} {os : List Oper} {cs : List (Option Cls)} {d j e : Nat} {want : Bool} (gb : Bool) {f arg : Operand} {ts : Array TypeId} {pre : List α} (hd : o.dst = some d) (hg : o.guard = some (j, want)) (hj : (ops[j]?).bind (·.dst) = some e) (hb : GB (s.get e) want gb) (hn : Nat.blt d s.n = true)
  (ho : o.op = .call ⟨.value f, #[arg], ts⟩) (h0 : gb = false → IOps E l enc xs ops K os cs (s.put (some d) undefT) (pre, false))
  (h1 : gb = true → s.mem = [] ∧ s.eval E f = .g (G.lit (.func (.yield l) #[] #[])) ∧ ∃ x post, (∀ w M ρ v, TRel w M ρ (s.eval E arg) v → v = enc x) ∧ xs = pre ++ x :: post ∧
   ∀ b, IOps E l enc xs ops K os cs (s.put (some d) (.g (G.bool b))) (pre ++ [x], !b)) : IOps E l enc xs ops K (o :: os) (none :: cs) s (pre, false) :=
 ⟨fun d' h => by rw [hd] at h; cases h; exact Nat.le_of_ble_eq_true hn, gb, (by unfold Wanted; rw [hg]; exact ⟨e, hj, hb⟩), (fun h => by rw [hd]; exact h0 h), fun h => by
  obtain ⟨hm, hf, x, post, ha, hx, hk⟩ := h1 h
  exact ⟨rfl, hm, f, arg, ts, x, post, ho, hf, ha, hx, fun b => by rw [hd]; exact hk b⟩⟩
end
section
variable {E : Env} {w0 : World} {M0 : Nat → Prop}
theorem ARel.freeze {s : ASt} {a : Act} {w : World} (id : Nat) {blk : Blk} {l : List (Nat × TV)} {m : Mem} (hb : lookO s.mem id = some blk) (h1 : FrzL s id blk l) (h2 : MemL s m) (h3 : closedB l m = true) (hid : lookO m id = none)
  (hbw : bowIn E m = true) (ha : ARel E w0 M0 s a w) : ARel E w0 M0 (stt s.n l m) a w := by
 obtain ⟨ρ, hm, hmk, ht⟩ := ha.ex
 let ρ' : Rho := fun id => if (lookO m id).isSome = true then ρ id else none
 have hρ : ∀ id, (lookO m id).isSome = true → ρ' id = ρ id := fun id hi => by simp only [ρ', if_pos hi]
 have hρ' : ∀ id x, ρ' id = some x → ρ id = some x ∧ (lookO m id).isSome = true := by
  intro id x hx;simp only [ρ'] at hx
  split at hx
  ·rename_i hi; exact ⟨hx, hi⟩
  ·cases hx
 have hM : ∀ b, owned M0 ρ' b → owned M0 ρ b := by
  rintro b (hb | ⟨id, o, ho, rfl⟩)
  ·exact .inl hb
  ·exact .inr ⟨id, o, (hρ' id _ ho).1, rfl⟩
 have hlent : lookO E.bow id = none := by
  cases hq : lookO E.bow id with
  | none => rfl
  | some x =>
   have := List.all_eq_true.1 hbw (id, x) (lookO_mem _ hq);simp only [hid] at this
   cases this
 have hno : ∀ ow, ρ id = some (some ow) → ¬ owned M0 ρ' ow.b := by
  rintro ow ho (hM0 | ⟨i, o, hi, he⟩)
  ·exact not_lent hm ho hlent (.inl hM0)
  ·have := hm.inj i id o ow (hρ' i _ hi).1 ho he;subst this;have := (hρ' i _ hi).2;rw [hid] at this; cases this
 simp only [closedB, Bool.and_eq_true, List.all_eq_true] at h3;refine ⟨ha.defers, ha.size, ρ', ⟨hm.below, hm.m0, ?_, ?_, ?_, ?_, ?_, hm.lentM, ?_⟩, hmk.sub hM, ?_⟩
 ·intro g vs hg;have := hm.glob g vs hg;exact ⟨⟨fun hb => this.1.1 (hM _ hb), this.1.2⟩, this.2.mono (fun _ _ _ => rfl) (fun b _ => hM b) this.1.1⟩
 ·intro id x hx;have := (hρ' id x hx).2
  cases hl : lookO m id with
  | none => rw [hl] at this; cases this
  | some b => exact ⟨b, hl⟩
 ·exact fun id ow ho => hm.fresh id ow (hρ' id _ ho).1
 ·exact fun id id' ow ow' ho ho' => hm.inj id id' ow ow' (hρ' id _ ho).1 (hρ' id' _ ho').1
 ·intro id x hx;rw [hρ id (List.all_eq_true.1 hbw (id, x) (lookO_mem _ hx))];exact hm.keep id x hx
 ·intro i blk' hb0;have hb0 : lookO m i = some blk' := hb0
  have hi : (lookO m i).isSome = true := by rw [hb0]; rfl
  have := hm.blk i blk' (memL_look h2 i blk' hb0)
  cases blk' with
  | box cs =>
   obtain ⟨ow, e, vs, g1, g2, g3, g4⟩ := this;have hcl := h3.2 (i, .box cs) (lookO_mem _ hb0);exact ⟨ow, e, vs, by rw [hρ i hi]; exact g1, g2, g3, g4.sub hM hρ (by simpa [blkIn] using hcl)⟩
  | arr e k xs =>
   rcases this with ⟨g1, g2⟩ | ⟨ow, vs, g1, g2, g3, g4, g5, g6, g7⟩
   ·exact .inl ⟨by rw [hρ i hi]; exact g1, g2⟩
   ·exact .inr ⟨ow, vs, by rw [hρ i hi]; exact g1, g2, g3, g4, g5, g6, g7.mono (fun _ _ _ => rfl) (fun b _ => hM b)⟩
  | mp es =>
   obtain ⟨ow, en, cl, g1, g2, g3, g4⟩ := this;exact ⟨ow, en, cl, by rw [hρ i hi]; exact g1, g2, g3.mono (fun _ _ _ => rfl) (fun b _ => hM b), g4⟩
  | obj o =>
   obtain ⟨ow, g1, g2, g3⟩ := this;exact ⟨ow, by rw [hρ i hi]; exact g1, g2, g3⟩
  | mit es seen =>
   obtain ⟨ow, g1, g2, g3⟩ := this;exact ⟨ow, by rw [hρ i hi]; exact g1, g2, g3.mono rfl (fun _ _ _ => rfl) (fun b _ => hM b)⟩
  | gone => trivial
 ·intro i;show TRel _ _ _ (lookT l i) _
  rcases frzL_get h1 i with h4 | ⟨⟨v, h5, h6⟩, h7⟩
  ·rw [h4]; trivial
  ·rcases h7 with ⟨h8, h9⟩ | h8
   ·have := ht i;rw [h8] at this;exact this.sub (m := m) (by rw [h6]; exact h3.1 (i, v) h5) hM hρ
   ·have hv := ht i
    rcases h8 with ⟨k, xs, e, N, rfl, hN, ha1, hb1, hk⟩ | ⟨cs, gs, off, rfl, hu, hne, ha1, hb1⟩ | ⟨es, rfl, ha1, hb1⟩
    ·rw [ha1] at hv;rw [hb1];subst hN;have hview := osl_view hm hb hv (Nat.zero_le _) (Nat.le_refl _);obtain ⟨a', cap, e1, g1, g2, g3, g4, g5, g6⟩ := hview;simp only [Nat.sub_zero, List.drop_zero, List.take_length] at e1 g1 g4 g5 g6;refine ⟨a', cap, e1, g1, g2, g5, ?_⟩
     rcases g6 with g6 | ⟨b, o, cur, news, rfl, ⟨ow, k0, rfl⟩, k1, k2, k3⟩
     ·have : xs = [] := List.eq_nil_of_length_eq_zero g6;subst this;exact .inl ⟨rfl, fun ha => (g3 ha).1⟩
     ·exact .inr ⟨ow.b, o, rfl, hno ow k0, cells_of_fits k1 (k2.mono (fun _ _ _ => rfl) (fun b _ => hM b)) k3⟩
    ·rw [ha1] at hv;rw [hb1];obtain ⟨ow, g1, g2⟩ := hv;obtain ⟨ow', e, vs, g3, g4, g5, g6⟩ := hm.blk id _ hb
     have : ow' = ow := by rw [g1] at g3; simpa using g3.symm
     subst this;refine ⟨ow'.b, ow'.o + off, g2, .inr (hno ow' g1), ?_⟩;have g7 := g6;rw [ungs_eq hu] at g7;have g8 := (fits_of_tfits g7).mono (w' := w) (M' := owned M0 ρ') (fun _ _ _ => rfl) (fun b _ => hM b);have hcells : Cells w (owned M0 ρ') ow'.b 0 gs := cells_of_fits g5 g8 (fun j v hj => by simpa using hj);rw [g4];exact hcells.drop off
    ·rw [ha1] at hv;rw [hb1];obtain ⟨ow, g1, g2⟩ := hv;obtain ⟨ow', en, cl, g3, g4, g5, g6⟩ := hm.blk id _ hb
     have : ow' = ow := by rw [g1] at g3; simpa using g3.symm
     subst this;exact ⟨ow'.b, en, cl, g2, hno ow' g1, g4, g5.mono (fun _ _ _ => rfl) (fun b _ => hM b), g6⟩
end
section
variable {α : Type} {E : Env} {l : Nat} {enc : α → Value} {xs : List α} {C : ItC E.P l enc xs} {Q : Exit → ASt → List α × Bool → Prop} {s : ASt} {p : List α × Bool}
theorem iw_freeze {c : Code} (id : Nat) {blk : Blk} {l1 : List (Nat × TV)} {m : Mem} (hb : lookO s.mem id = some blk) (h1 : FrzL s id blk l1) (h2 : MemL s m) (h3 : closedB l1 m = true) (hid : lookO m id = none)
  (h : IWp E C c Q (stt s.n l1 m) p) (hbw : E.bow = [] := by rfl) : IWp E C c Q s p := by
 rintro a w ⟨N, W1, k1, k2, k3, k4, k5, k6⟩;exact h a w ⟨N, W1, k1, k2, k3, k4, k5.freeze id hb h1 h2 h3 hid (by unfold bowIn; rw [hbw]; rfl), k6⟩
def IEnd (xs : List α) : Exit → ASt → List α × Bool → Prop
 | .normal, _, p => p.2 = true ∨ p.1 = xs
 | .ret, _, p => p.2 = true ∨ p.1 = xs
 | _, _, _ => False
theorem leavesN {P : Program} {fn : Func} {tmps : Array Value} {N : Nat → Prop} {J J' : World → Prop} (hJJ : ∀ W, J W → J' W) (hr : ∀ w, (results fn tmps).run P w = .ok (.tuple #[]) w) (hJ : ∀ W D o, N D → J W → J (W.putObj D o)) : ∀ (ds : List Deferred) (w1 : World), MarksN N ds w1 → J w1 →
  LeavesInM Fence.wide 0 P fn tmps (fun e w'' => (∃ v, e = .returned v) ∧ J' w'') ds .returning w1
 | [], w1, _, hj => ⟨_, hr w1, ⟨_, rfl⟩, hJJ _ hj⟩
 | d :: ds, w1, ⟨hn, hd⟩, hj => by
  obtain ⟨D, rfl, hN, hD⟩ := hd _ List.mem_cons_self;obtain ⟨hn1, hn2⟩ := List.nodup_cons.1 hn;refine ⟨by simp, .inl ⟨D, _, rfl, run_takeDeferred hD, ?_⟩⟩;refine leavesN hJJ hr hJ ds _ ⟨hn2, fun d' hd' => ?_⟩ (hJ _ _ _ hN hj);obtain ⟨D', rfl, hN', hD'⟩ := hd d' (List.mem_cons_of_mem _ hd');exact ⟨D', rfl, hN', (World.putObj_heap_other (fun e => hn1 (by rw [← e]; exact hd'))).trans hD'⟩
theorem seqN_of_iw {g : FuncId} {fn : Func} {c : Code} {caps : List G} (hf : E.P.funcs[g]? = some fn) (hb : fn.body = some c) (hn0 : Nat.ble (caps.length + 1) fn.ntmps = true) (hres : fn.results = #[])
  (h : ∀ (l : Nat) (C : ItC E.P l enc xs), IWp E C c (IEnd xs) ⟨fn.ntmps, initT (G.lit (.func (.yield l) #[] #[]) :: caps), []⟩ ([], false)) (hbw : E.bow = [] := by rfl) (hrn : E.rnd = none := by rfl) : SeqN E g caps enc xs := by
 intro w M vs l J hM hgl hv hturn htake hy h0;have hn := Nat.le_of_ble_eq_true hn0;have hlen := hv.length
 have hF : E.F = Fence.wide := by unfold Env.F; rw [hrn]; rfl
 let C : ItC E.P l enc xs := ⟨w, w.heap.size, M, J, fun _ => False, hM, Nat.le_refl _, hturn, htake, hy⟩
 refine callsIn_of_wp_marks hf hb trivial ?_ rfl
 have hv' : FitsT w (owned (fun b => M b ∨ False) (fun _ => none)) (G.lit (.func (.yield l) #[] #[]) :: caps) ((Value.func (.yield l) #[] #[]) :: vs) :=
  ⟨rfl, hv.mono (fun _ _ _ => rfl) (by rintro b _ (h | ⟨_, _, h, _⟩); exact h.resolve_right id; cases h)⟩
 have ha : IRel E C ⟨fn.ntmps, initT (G.lit (.func (.yield l) #[] #[]) :: caps), []⟩ ([], false) { tmps := (#[Value.func (.yield l) #[] #[]] ++ vs.toArray) ++ Array.replicate (fn.ntmps - (#[Value.func (.yield l) #[] #[]] ++ vs.toArray).size) undef, defers := [] } w := by
  refine ⟨fun _ => False, w, h0, (fun _ h => h.elim), BelowX.refl _ w, ⟨.nil, fun _ h => by cases h⟩, ⟨fun _ => rfl, ?_, fun _ => none, ⟨BelowX.refl _ w, (fun b h => hM b (h.resolve_right id)), ?_, ?_, ?_, ?_, (fun id x h => by rw [hbw] at h; cases h), (fun b h => absurd h (lent_nil hbw)), ?_⟩, Marks.nil, ?_⟩, fun _ h => h⟩
  ·simp; omega
  ·intro g vs hg;have := hgl g vs hg
   have hiff : ∀ b, owned (fun b => M b ∨ False) (fun _ => none) b → M b := by rintro b (h | ⟨_, _, h, _⟩); exact h.resolve_right id; cases h
   exact ⟨⟨fun h => this.1.1 (hiff _ h), this.1.2⟩, this.2.mono (fun _ _ _ => rfl) (fun b _ h => hiff b h) this.1.1⟩
  ·intro _ _ h; cases h
  ·intro _ _ h; cases h
  ·intro _ _ _ _ h; cases h
  ·intro _ _ h; cases h
  ·intro i;have := initT_rel (ρ := fun _ => none) (fn.ntmps - (vs.length + 1)) hv' i;show TRel _ _ _ (initT _ i) _;rw [Array.getD_eq_getD_getElem?];rw [show ((#[Value.func (.yield l) #[] #[]] ++ vs.toArray) ++ Array.replicate (fn.ntmps - (#[Value.func (.yield l) #[] #[]] ++ vs.toArray).size) undef) = ((Value.func (.yield l) #[] #[] :: vs) ++ List.replicate (fn.ntmps - (vs.length + 1)) undef).toArray by simp [Nat.add_comm]];rw [List.getElem?_toArray];exact this
 have hw := h l C _ w ha;rw [hF] at hw;refine wpIn_mono hw ?_;rintro e a' w' ⟨s', p', ⟨N, W1, k1, k2, k3, k4, k5, k6⟩, hq⟩;obtain ⟨ρ, hm, _, _⟩ := k5.ex;have hg : Grow W1 w' := hm.below.grow (fun _ => lent_nil hbw)
 have hk : MarksN N a'.defers w' := ⟨k4.1, fun d hd => by
  obtain ⟨D, q1, q2, q3⟩ := k4.2 d hd
  exact ⟨D, q1, q2, (hg.block D (k2 D q2).2).trans q3⟩⟩
 have fin : (p'.2 = true ∨ p'.1 = xs) → LeavesInM Fence.wide 0 E.P fn a'.tmps (fun e w'' => (∃ v, e = .returned v) ∧ (J (fun _ => False) xs false w'' ∨ ∃ pre, J (fun _ => False) pre true w'')) a'.defers .returning w' := by
  intro hq;have hJ : J N p'.1 p'.2 w' := hturn _ _ _ _ _ k1 (BelowX.of_grow hg);refine leavesN (P := E.P) (fn := fn) (tmps := a'.tmps) (N := N) (J := fun W => J N p'.1 p'.2 W) (fun W hj => ?_) (fun w => results_none hres _ _ w) (fun W D o hN hj => hturn _ _ _ _ _ hj (put_belowX _ _ _ hN)) a'.defers w' hk hJ;have hj := htake _ (fun _ => False) _ _ _ hj (fun _ h => h.elim);obtain ⟨pre, st⟩ := p'
  cases st with
  | true => exact .inr ⟨pre, hj⟩
  | false =>
   rcases hq with h | h
   ·cases h
   ·rw [show pre = xs from h] at hj; exact .inl hj
 cases e with
 | ret => exact fin hq
 | normal => exact fin hq
 | _ => exact hq.elim
end
section
variable {α : Type} {E : Env} {l : Nat} {enc : α → Value} {xs : List α} {C : ItC E.P l enc xs} {Q : Exit → ASt → List α × Bool → Prop}
def Env.rin (E : Env) (lp : Nat) : Env := ⟨E.P, E.gl, E.orders, [], some lp, false⟩
theorem Con.rin {f : FuncId} {args : List G} {r : G} {lp : Nat} (h : Con E f args r) : Con (E.rin lp) f args r := h
def IRound (p1 : List α) : Exit → ASt → List α × Bool → Prop
 | .normal, _, p => p = (p1, false)
 | .ret, _, p => p.2 = true
 | _, _, _ => False
theorem arel_ground {W : World} {M : Nat → Prop} {n : Nat} {t : Nat → TV} {tmps : Array Value} (hbw : E.bow = []) (hM : ∀ b, M b → b < W.heap.size) (hgl : GlOk E W M) (hs : tmps.size = n) (ht : ∀ i, TRel W M (fun _ => none) (t i) (tmps.getD i undef)) : ARel E W M ⟨n, t, []⟩ ⟨tmps, []⟩ W := by
 have how : owned M (fun _ => none) = M := by
  funext b
  exact propext ⟨(by rintro (h | ⟨_, _, h, _⟩); exact h; cases h), fun h => .inl h⟩
 refine ⟨fun _ => rfl, hs, fun _ => none, ⟨BelowX.refl _ W, hM, by rw [how]; exact hgl, (fun _ _ h => by cases h), (fun _ _ h => by cases h), (fun _ _ _ _ h => by cases h), (fun id x h => by rw [hbw] at h; cases h), (fun b h => absurd h (lent_nil hbw)), fun id blk hb => by cases hb⟩, Marks.nil, fun i => ?_⟩;rw [how];exact ht i
theorem arel_ground' {W1 W : World} {M : Nat → Prop} {n : Nat} {t : Nat → TV} {tmps : Array Value} (hbw : E.bow = []) (h : ARel E W1 M ⟨n, t, []⟩ ⟨tmps, []⟩ W) : Grow W1 W ∧ GlOk E W M ∧ tmps.size = n ∧ ∀ i, TRel W M (fun _ => none) (t i) (tmps.getD i undef) := by
 obtain ⟨ρ, hm, _, ht⟩ := h.ex
 have hρ : ρ = fun _ => none := by
  funext id
  cases hq : ρ id with
  | none => rfl
  | some x =>
   obtain ⟨blk, hb⟩ := hm.dom id x hq
   cases hb
 subst hρ
 have how : owned M (fun _ => none) = M := by
  funext b
  exact propext ⟨(by rintro (h | ⟨_, _, h, _⟩); exact h; cases h), fun h => .inl h⟩
 have hgl := hm.glob;rw [how] at ht hgl;exact ⟨hm.below.grow (fun _ => lent_nil hbw), hgl, h.size, ht⟩
theorem iw_rangeFunc {β : Type} {gop : Operand} {p : Tmp} {assign body : Code} {n : Nat} {t : Nat → TV} {gf : FuncId} {caps : List G} {encb : β → Value} {ys : List β} (f : List β → List α) (gx : β → G) (t1 : β → Nat → TV)
  (hk : Known E.P gf) (hp : p < n) (hg : ASt.eval E ⟨n, t, []⟩ gop = .g (.fn (.func gf) [] caps)) (hseq : SeqN E gf caps encb ys) (hgx : ∀ y w M, (gx y).p w M (encb y))
  (hassign : ∀ y pre lp (C' : ItC E.P l enc xs), IWp (E.rin lp) C' assign (fun e s' p' => e = .normal ∧ s' = ⟨n, t1 y, []⟩ ∧ p' = pre) ⟨n, upd p (.g (gx y)) t, []⟩ pre)
  (hbody : ∀ q y post, ys = q ++ y :: post → ∀ lp (C' : ItC E.P l enc xs), IWp (E.rin lp) C' body (IRound (f (q ++ [y]))) ⟨n, t1 y, []⟩ (f q, false))
  (hdone : Q .normal ⟨n, t, []⟩ (f ys, false)) (hstop : ∀ pre, Q .ret ⟨n, t, []⟩ (pre, true)) (hbw : E.bow = [] := by rfl) (hmk : E.mks = false := by rfl) (hrn : E.rnd = none := by rfl) :
  IWp E C (.rangeFunc gop #[p] assign body) Q ⟨n, t, []⟩ (f [], false) := by
 rintro a w ⟨N, W1, k1, k2, k3, k4, k5, k6⟩
 have hF : E.F = Fence.wide := by unfold Env.F; rw [hrn]; rfl
 obtain ⟨hgw, hglob, hsize, ht⟩ := arel_ground' hbw k5;have hMN : ∀ b, C.M b ∨ N b → b < w.heap.size := fun b hb => hb.elim (fun hb => Nat.lt_of_lt_of_le (C.hM b hb) (Nat.le_trans C.hlo (Nat.le_trans k3.size hgw.size))) (fun hb => Nat.lt_of_lt_of_le (k2 b hb).2 hgw.size)
 obtain ⟨fs, cs, hge, hfs, hcs⟩ : (G.fn (.func gf) [] caps).p w (fun b => C.M b ∨ N b) (a.eval gop) := by
  have h0 := arel_ground hbw hMN hglob hsize ht;obtain ⟨ρ, hm, hx⟩ := h0.rel;have := hx gop;rw [hg] at this;exact G.mono _ this (fun _ _ _ => rfl) (fun b _ h => .inl h)
 obtain rfl : fs = [] := by cases fs with
  | nil => rfl
  | cons => exact hfs.elim
 obtain ⟨fng, g1, g2, g3⟩ := hk;refine wpIn_rangeFunc ?_;intro fn _;obtain ⟨rec, hrec⟩ : ∃ rec : LoopState → Option Code → Loop, rec = fun st pe => { state := st, pending := pe, fn, tmps := a.tmps, params := #[p], assign, body, defers := w.heap.size } := ⟨_, rfl⟩;obtain ⟨w2, hw2⟩ : ∃ w2, (w.alloc (.deferred (some []))).alloc (.loop (rec .ready none)) = w2 := ⟨_, rfl⟩
 have hgr : Grow w w2 := by rw [← hw2]; exact (Grow.alloc w _).trans (Grow.alloc _ _)
 have hsz : w2.heap.size = w.heap.size + 2 := by rw [← hw2]; simp
 have hL : w2.heap[w.heap.size + 1]? = some (.loop (rec .ready none)) := by
  rw [← hw2]; have := World.alloc_heap_new (w.alloc (.deferred (some []))) (.loop (rec .ready none)); rwa [World.size_alloc] at this
 have hD : w2.heap[w.heap.size]? = some (.deferred (some [])) := by
  rw [← hw2]; exact (RowKit.Below.heap_alloc _ _ _ (by simp)).trans (World.alloc_heap_new w _)
 have hrun : (Instr.enterLoop fn a.tmps #[p] assign body E.F.round).run E.P w = .ok (w.heap.size + 1, [{ target := .collected w.heap.size, args := #[] }]) w2 := by
  rw [← hw2, hrec, hF]; exact run_enterLoop_outer _ _ _ _ _
 clear hw2;generalize hDD : w.heap.size = D at *;generalize hlpp : D + 1 = lp at *;have hCw : C.w.heap.size ≤ w.heap.size := Nat.le_trans k3.size hgw.size;have hCwl := C.hlo
 have hMw : ∀ b, C.M b → b < w.heap.size := fun b hb => by have := C.hM b hb; omega
 let L : Nat → Prop := fun b => C.M b ∨ b = lp
 have hML : ∀ b, C.M b → L b := fun b h => .inl h
 let N2 : Nat → Prop := fun b => N b ∨ b = D ∨ b = lp
 let Mi : Nat → Prop := fun b => C.M b ∨ N2 b
 have hLMi : ∀ b, L b → Mi b := by
  rintro b (h | h)
  ·exact .inl h
  ·exact .inr (.inr (.inr h))
 have hMi : ∀ b, Mi b → b < w2.heap.size := by
  rintro b (h | h | h | h)
  ·have := hMw b h; omega
  ·have := hMN b (.inr h); omega
  ·omega
  ·omega
 have hMiSub : ∀ b, b < w.heap.size → Mi b → C.M b ∨ N b := by
  rintro b hb (h | h | h | h)
  ·exact .inl h
  ·exact .inr h
  ·omega
  ·omega
 have hgl2 : GlOk E w2 Mi := fun g vs hgv => by
  obtain ⟨⟨g1, g2⟩, g3⟩ := hglob g vs hgv;exact ⟨⟨fun h => g1 (hMiSub g g2 h), by omega⟩, g3.mono hgr.hh hMiSub g1⟩
 have hJ2 : C.J N2 (f []) false w2 :=
  C.turn _ _ _ _ _ (C.take _ N2 _ _ _ (C.turn _ _ _ _ _ k1 (BelowX.of_grow hgw)) (fun b hb => by
   rcases hb with h | h | h
   ·exact .inl h
   ·exact .inr (by omega)
   ·exact .inr (by omega))) (BelowX.of_grow hgr)
 have hN2 : ∀ b, N2 b → C.lo ≤ b ∧ b < w2.heap.size := by
  rintro b (h | h | h)
  ·have h1 := k2 b h; have := hgw.size; exact ⟨h1.1, by omega⟩
  ·omega
  ·omega
 have hN2M : ∀ b, N2 b → ¬ C.M b := fun b h1 h2 => by have := C.hM b h2; have := (hN2 b h1).1; omega
 have hlpM : ¬ C.M lp := hN2M lp (.inr (.inr rfl));have hDM : ¬ C.M D := hN2M D (.inr (.inl rfl));have hB2 : BelowX C.M C.w w2 := (k3.trans (BelowX.of_grow hgw)).trans (BelowX.of_grow hgr)
 have hBC : ∀ W, BelowX L w2 W → BelowX C.M C.w W := fun W h => ⟨h.os.trans hB2.os, h.tape.trans hB2.tape, h.output.trans hB2.output, Nat.le_trans hB2.size h.size, fun k hk hl =>
  (h.block k (Nat.lt_of_lt_of_le hk hB2.size) (by rintro (h | h); exact hl h; omega)).trans (hB2.block k hk hl)⟩
 have hhw : ∀ W, BelowX L w2 W → ∀ b, b < w.heap.size → ¬ C.M b → W.heap[b]? = w.heap[b]? := fun W h b hb hno =>
  (h.block b (by omega) (by rintro (h | h); exact hno h; omega)).trans (hgr.block b hb)
 have hglW : ∀ W (X : Nat → Prop), BelowX L w2 W → (∀ b, b < w.heap.size → X b → N b) → GlOk E W (fun b => C.M b ∨ X b) := fun W X h hX g vs hgv => by
  obtain ⟨⟨g1, g2⟩, g3⟩ := hglob g vs hgv;have hs : ∀ b, b < w.heap.size → (C.M b ∨ X b) → C.M b ∨ N b := fun b hb hx => hx.imp id (hX b hb);exact ⟨⟨fun k => g1 (hs g g2 k), by have := h.size; omega⟩, g3.mono (fun b hb hno => hhw W h b hb fun k => hno (.inl k)) hs g1⟩
 have htW : ∀ W (X : Nat → Prop), BelowX L w2 W → (∀ b, b < w.heap.size → X b → N b) → ∀ i, TRel W (fun b => C.M b ∨ X b) (fun _ => none) (t i) (a.tmps.getD i undef) := fun W X h hX i =>
  (ht i).mono none (by cases ASt.get ⟨n, t, []⟩ i <;> rfl) (fun b hb hno => hhw W h b hb fun k => hno (.inl k)) (fun b hb hx => hx.imp id (hX b hb)) (fun _ _ _ => rfl)
 have hMlt : ∀ W (X : Nat → Prop), BelowX L w2 W → (∀ b, X b → b < W.heap.size) → ∀ b, C.M b ∨ X b → b < W.heap.size := fun W X h hX b hb => hb.elim (fun hb => by have := hMw b hb; have := h.size; omega) (hX b)
 have hN2s : ∀ b, b < w.heap.size → N2 b → N b := by
  rintro b hb (h | h | h)
  ·exact h
  ·omega
  ·omega
 -- behind the loop
 have back : ∀ W' st pe pre stp (Ni : Nat → Prop), C.J (fun b => N2 b ∨ Ni b) pre stp W' → BelowX L w2 W' → W'.heap[D]? = some (.deferred (some [])) →
   IRel E C ⟨n, t, []⟩ (pre, stp) { a with defers := { target := .collected D, args := #[] } :: a.defers } (W'.putObj lp (.loop { rec st pe with state := .exhausted })) := by
  intro W' st pe pre stp Ni hJ hB hd;have hB' : BelowX L w2 (W'.putObj lp (.loop { rec st pe with state := .exhausted })) := hB.trans (put_belowX _ _ _ (.inr rfl))
  have hJ' : C.J N2 pre stp (W'.putObj lp (.loop { rec st pe with state := .exhausted })) :=
   C.turn _ _ _ _ _ (C.take _ N2 _ _ _ hJ (fun b h => .inl (.inl h))) (put_belowX _ _ _ (.inr (.inr rfl)))
  refine ⟨N2, _, hJ', fun b hb => ⟨(hN2 b hb).1, Nat.lt_of_lt_of_le (hN2 b hb).2 hB'.size⟩, hBC _ hB', ?_, arel_ground hbw (hMlt _ N2 hB' (fun b hb => Nat.lt_of_lt_of_le (hN2 b hb).2 hB'.size)) (hglW _ N2 hB' hN2s) hsize (htW _ N2 hB' hN2s), fun b hb => .inl (k6 b hb)⟩;refine ⟨List.nodup_cons.2 ⟨fun hq => ?_, k4.1⟩, fun d hd' => ?_⟩
  ·obtain ⟨D', q1, q2, q3⟩ := k4.2 _ hq;simp only [Deferred.mk.injEq, Target.collected.injEq, and_true] at q1;have := (k2 D' q2).2; have := hgw.size; omega
  rcases List.mem_cons.1 hd' with rfl | hd'
  ·exact ⟨D, rfl, .inr (.inl rfl), (World.putObj_heap_other (by omega)).trans hd⟩
  ·obtain ⟨D', q1, q2, q3⟩ := k4.2 _ hd';have h1 := (k2 D' q2).2;have h2 := hgw.size;refine ⟨D', q1, .inl q2, (World.putObj_heap_other (by omega)).trans ((hhw _ hB D' (by omega) fun h => hN2M D' (.inl q2) h).trans ((hgw.block D' h1).trans q3))⟩
 refine ⟨lp, [{ target := .collected D, args := #[] }], w2, { target := .fn (.func gf) cs.toArray, args := #[.func (.yield lp) #[] #[]] }, w2, gf,
  #[.func (.yield lp) #[] #[]] ++ cs.toArray, w2, hrun, ?_, fun _ _ => trivial, ?_, env_room, ?_⟩
 ·simp only [resolve, hge]
  simp [go_sem]
 ·simp [invoke, go_sem, run_callFunc g1 g2 g3]
 rw [hF]
 let Ji : (Nat → Prop) → List β → Bool → World → Prop := fun Ni q st W => (∃ pre, (st = false → pre = f q) ∧ C.J (fun b => N2 b ∨ Ni b) pre st W) ∧ BelowX L w2 W ∧
  W.heap[lp]? = some (.loop (rec (if st = true then .done else .ready) (if st = true then some .ret else none))) ∧ W.heap[D]? = some (.deferred (some [])) ∧ ∀ b, Ni b → w2.heap.size ≤ b
 refine (hseq w2 Mi cs lp Ji hMi hgl2 (hcs.mono hgr.hh hMiSub) ?_ ?_ ?_ ?_).mono ?_
 ·rintro Ni q st W W' ⟨⟨pre, hp, hJ⟩, j1, j3, j4, j5⟩ hB;refine ⟨⟨pre, hp, C.turn _ _ _ _ _ hJ (hB.mono fun b h => .inr h)⟩, ⟨hB.os.trans j1.os, hB.tape.trans j1.tape, hB.output.trans j1.output, Nat.le_trans j1.size hB.size, fun k hk hl => ?_⟩, ?_, ?_, j5⟩
  ·exact (hB.block k (Nat.lt_of_lt_of_le hk j1.size) (fun h => by have := j5 k h; omega)).trans (j1.block k hk hl)
  ·exact (hB.block lp (Array.getElem?_eq_some_iff.1 j3).1 (fun h => by have := j5 lp h; omega)).trans j3
  ·exact (hB.block D (Array.getElem?_eq_some_iff.1 j4).1 (fun h => by have := j5 D h; omega)).trans j4
 ·rintro Ni Ni' q st W ⟨⟨pre, hp, hJ⟩, j1, j3, j4, j5⟩ hN;refine ⟨⟨pre, hp, C.take _ _ _ _ _ hJ fun b hb => ?_⟩, j1, j3, j4, fun b hb => ?_⟩
  ·rcases hb with h | h
   ·exact .inl (.inl h)
   ·exact (hN b h).imp .inr id
  ·rcases hN b hb with h | h
   ·exact j5 b h
   ·exact Nat.le_trans j1.size h
 ·-- ONE ROUND
  rintro Ni q y post Wr hys _ hNi ⟨⟨pre, hpre, hJ⟩, j1, j3, j4, j5⟩;obtain rfl := hpre rfl;have hlpW1 : lp < Wr.heap.size := (Array.getElem?_eq_some_iff.1 j3).1;simp only [Bool.false_eq_true, if_false] at j3;have hy := run_yield (P := E.P) (args := #[encb y]) j3 (by rw [hrec]; rfl);refine ⟨_, _, _, _, hy, roundIn_of_wpIn trivial ?_⟩;clear hy
  have hfold : (((rec .ready none).params.zip #[encb y]).foldl (fun tmps (t, a) => tmps.setIfInBounds t a) (rec .ready none).tmps) = (a.put (some p) (encb y)).tmps := by rw [hrec]; simp [Act.put]
  have has : (rec .ready none).assign = assign := by rw [hrec]
  have hbo : (rec .ready none).body = body := by rw [hrec]
  rw [hfold, has, hbo]
  let NN : Nat → Prop := fun b => N2 b ∨ Ni b
  have hNN : ∀ b, NN b → C.lo ≤ b ∧ b < Wr.heap.size := by
   rintro b (h | h)
   ·exact ⟨(hN2 b h).1, Nat.lt_of_lt_of_le (hN2 b h).2 j1.size⟩
   ·exact ⟨by have := (hNi b h).1; omega, (hNi b h).2⟩
  have hNM : ∀ b, NN b → ¬ C.M b := fun b h1 h2 => by have := C.hM b h2; have := (hNN b h1).1; omega
  have hNNs : ∀ b, b < w.heap.size → NN b → N b := by
   rintro b hb (h | h)
   ·exact hN2s b hb h
   ·have := (hNi b h).1; omega
  have ha1 : IRel (E.rin lp) (C.at Wr (hBC Wr j1) NN) ⟨n, upd p (.g (gx y)) t, []⟩ (f q, false) { tmps := (a.put (some p) (encb y)).tmps, defers := [] } Wr := by
   refine ⟨NN, Wr, hJ, hNN, BelowX.refl _ _, ⟨.nil, fun _ h => by cases h⟩, arel_ground (E := E.rin lp) rfl (hMlt Wr NN j1 fun b hb => (hNN b hb).2) (hglW Wr NN j1 hNNs) (by rw [size_put]; exact hsize) (fun i => ?_), fun b h => h⟩;rw [getD_put a (some p) (encb y) (fun d h => by cases h; rw [hsize]; exact hp), upd_eq]
   by_cases hpi : p = i
   ·rw [if_pos hpi, if_pos (by rw [hpi])]; exact hgx y _ _
   ·rw [if_neg hpi, if_neg (fun h => hpi (by cases h; rfl))]; exact htW Wr NN j1 hNNs i
  refine wpIn_mono (hassign y (f q, false) lp (C.at Wr (hBC Wr j1) NN) _ Wr ha1) ?_;rintro e a1 Wa ⟨s', p', ⟨Na, Wa1, n1, n2, n3, n4, n5, n6⟩, rfl, rfl, rfl⟩;obtain ⟨hga, hgla, hsa, hta⟩ := arel_ground' (E := E.rin lp) rfl n5;have n3 : BelowX C.M Wr Wa1 := n3;have hBa : BelowX C.M Wr Wa := n3.trans (BelowX.of_grow hga);have e3 : Wa.heap[lp]? = some (.loop (rec .ready none)) := (hBa.block lp hlpW1 hlpM).trans j3;have e4 : Wa.heap[D]? = some (.deferred (some [])) := (hBa.block D (by omega) hDM).trans j4;refine ⟨_, run_beginRound e3 (by rw [hrec]), ?_⟩;have hlpWa : lp < Wa.heap.size := Nat.lt_of_lt_of_le hlpW1 hBa.size;generalize hWb : Wa.putObj lp (.loop { rec .ready none with state := .busy }) = Wb
  have hput : BelowX L Wa Wb := by rw [← hWb]; exact put_belowX _ _ _ (.inr rfl)
  have hb3 : Wb.heap[lp]? = some (.loop { rec .ready none with state := .busy }) := by rw [← hWb]; exact World.putObj_heap_same hlpWa
  have hb4 : Wb.heap[D]? = some (.deferred (some [])) := by rw [← hWb]; exact (World.putObj_heap_other (by omega)).trans e4
  have hbo : ∀ b, b ≠ lp → Wb.heap[b]? = Wa.heap[b]? := fun b h => by rw [← hWb]; exact World.putObj_heap_other h
  have hbs : Wb.heap.size = Wa.heap.size := by rw [← hWb]; exact put_size _ _ _
  have hBr : BelowX L Wr Wb := (hBa.mono hML).trans hput;have hBb : BelowX L w2 Wb := j1.trans hBr;have hlpNa : Na lp := n6 lp (.inl (.inr (.inr rfl)));have hJb : C.J Na (f q) false Wb := C.turn _ _ _ _ _ (C.turn _ _ _ _ _ n1 (BelowX.of_grow hga)) (by rw [← hWb]; exact put_belowX _ _ _ hlpNa);have hNa : ∀ b, Na b → C.lo ≤ b ∧ b < Wb.heap.size := fun b hb => ⟨(n2 b hb).1, by rw [hbs]; exact Nat.lt_of_lt_of_le (n2 b hb).2 hga.size⟩
  have ha2 : IRel (E.rin lp) (C.at Wb (hBC Wb hBb) NN) ⟨n, t1 y, []⟩ (f q, false) a1 Wb := by
   refine ⟨Na, Wb, hJb, hNa, BelowX.refl _ _, ⟨n4.1, fun d hd => ?_⟩, arel_ground (E := E.rin lp) rfl (hMlt Wb Na hBb fun b hb => (hNa b hb).2) ?_ hsa (fun i => ?_), n6⟩
   ·obtain ⟨D', q1, q2, q3⟩ := n4.2 d hd;have h1 := (n2 D' q2).2;have h3 : Wa.heap[D']? = some (.deferred (some [])) := (hga.block D' h1).trans q3;refine ⟨D', q1, q2, (hbo D' fun h => ?_).trans h3⟩;rw [h, e3] at h3; cases h3
   ·exact GlOk.grow (E := E) hgla (by rw [hbs]; exact Nat.le_refl _) fun b _ hno => hbo b fun h => hno (.inr (by rw [h]; exact hlpNa))
   ·exact (hta i).mono none (by cases ASt.get ⟨n, t1 y, []⟩ i <;> rfl) (fun b _ hno => hbo b fun h => hno (.inr (by rw [h]; exact hlpNa))) (fun _ _ h => h) (fun _ _ _ => rfl)
  refine wpIn_mono (hbody q y post hys lp (C.at Wb (hBC Wb hBb) NN) a1 Wb ha2) ?_;rintro e2 a2 W3 ⟨s3, p3, ⟨N3, W4, m1, m2, m3, m4, m5, m6⟩, hq⟩;have m3 : BelowX C.M Wb W4 := m3;obtain ⟨ρ3, hm3, _, _⟩ := m5.ex;have hB3 : BelowX C.M Wb W3 := m3.trans (BelowX.of_grow (hm3.below.grow (fun _ => lent_nil rfl)));have f3 : W3.heap[lp]? = some (.loop { rec .ready none with state := .busy }) := (hB3.block lp (by omega) hlpM).trans hb3;have f4 : W3.heap[D]? = some (.deferred (some [])) := (hB3.block D (by omega) hDM).trans hb4;have b13 : BelowX L Wr W3 := hBr.trans (hB3.mono hML);have hJ3 : C.J N3 p3.1 p3.2 W3 := C.turn _ _ _ _ _ m1 (BelowX.of_grow (hm3.below.grow (fun _ => lent_nil rfl)));have fin : ∀ (jump : Option Code) (b : Bool), b = !jump.isNone → (jump = none ∨ jump = some .ret) → p3.2 = b → (b = false → p3.1 = f (q ++ [y])) →
    ∃ v W5, (Instr.endRound lp jump).run E.P W3 = .ok v W5 ∧ BelowX Mi Wr W5 ∧ ∃ b, (Ending.returned v) = .returned (.bool b) ∧ Ji Ni (q ++ [y]) (!b) W5 := by
   intro jump b hb hjump hp3 hp31;have hr := run_endRound (P := E.P) jump f3
   have hrr : ({ ({ rec .ready none with state := .busy } : Loop) with state := if jump.isNone then .ready else .done, pending := jump } : Loop) = rec (if jump.isNone then .ready else .done) jump := by rw [hrec]
   rw [hrr] at hr;have b14 : BelowX L Wr (W3.putObj lp (.loop (rec (if jump.isNone then .ready else .done) jump))) := b13.trans (put_belowX _ _ _ (.inr rfl));refine ⟨_, _, hr, b14.mono hLMi, jump.isNone, rfl, ⟨p3.1, fun h => hp31 (by rw [hb]; exact h), ?_⟩, j1.trans b14, ?_, (World.putObj_heap_other (by omega)).trans f4, j5⟩
   ·have := C.turn _ _ _ _ _ hJ3 (put_belowX (L := N3) W3 lp (.loop (rec (if jump.isNone then .ready else .done) jump)) (m6 lp (.inl (.inr (.inr rfl)))));rw [hp3, hb] at this;exact C.take _ _ _ _ _ this fun b hb => .inl (m6 b hb)
   ·rcases hjump with rfl | rfl
    ·exact World.putObj_heap_same (Array.getElem?_eq_some_iff.1 f3).1
    ·exact World.putObj_heap_same (Array.getElem?_eq_some_iff.1 f3).1
  cases e2 with
  | normal =>
   have hq : p3 = (f (q ++ [y]), false) := hq;obtain ⟨v, W5, g1, g2, b, g3, g4⟩ := fin none false rfl (.inl rfl) (by rw [hq]) (fun _ => by rw [hq]);exact ⟨v, W5, g1, g2, b, g3, g4⟩
  | ret =>
   have hq : p3.2 = true := hq;obtain ⟨v, W5, g1, g2, b, g3, g4⟩ := fin (some .ret) true rfl (.inr rfl) hq (fun h => by cases h);exact ⟨v, W5, g1, g2, b, g3, g4⟩
  | _ => exact hq.elim
 ·-- AT THE START
  exact ⟨⟨f [], fun _ => rfl, C.take _ _ _ _ _ hJ2 (fun b hb => hb.elim .inl (fun h => h.elim))⟩, BelowX.refl _ w2, hL, hD, fun _ h => h.elim⟩
 ·-- BEHIND THE ITERATOR
  rintro e W' ⟨⟨v, rfl⟩, ⟨⟨pre, hpre, hJ⟩, j1, j3, j4, j5⟩ | ⟨q, ⟨pre, hpre, hJ⟩, j1, j3, j4, j5⟩⟩
  ·obtain rfl := hpre rfl;simp only [Bool.false_eq_true, if_false] at j3;refine ⟨none, _, ?_, _, _, back _ .ready none _ _ _ hJ j1 j4, hdone⟩;have := run_endLoop (P := E.P) j3 (by rw [hrec]; simp);rw [this, hrec]
  ·simp only [if_true] at j3;have hl := run_endLoop (P := E.P) j3 (by rw [hrec]; simp);refine ⟨some .ret, _, ?_, wpIn_ret ⟨_, _, back _ .done (some .ret) _ _ _ hJ j1 j4, hstop pre⟩⟩;rw [hl];subst hrec
   rfl
theorem iw_rangeC {β : Type} {gop : Operand} {p : Tmp} {assign body : Code} {n : Nat} {gf : FuncId} {caps : List G} {encb : β → Value} {s : ASt} {p0 : List α × Bool} (ys : List β) (l1 : List (Nat × TV)) (f : List β → List α) (gx : β → G) (t1 : (Nat → TV) → β → Nat → TV)
  (hn : s.n = n) (hwk : WeakL s l1) (hcl : closedB l1 [] = true) (hp0 : p0 = (f [], false)) (hk : Known E.P gf) (hp : Nat.blt p n = true) (hg : ASt.eval E ⟨n, lookT l1, []⟩ gop = .g (.fn (.func gf) [] caps)) (hseq : SeqN E gf caps encb ys) (hgx : ∀ y w M, (gx y).p w M (encb y))
  (hassign : ∀ y pre lp (C' : ItC E.P l enc xs), IWp (E.rin lp) C' assign (fun e s' p' => e = .normal ∧ s' = ⟨n, t1 (lookT l1) y, []⟩ ∧ p' = pre) ⟨n, upd p (.g (gx y)) (lookT l1), []⟩ pre)
  (hbody : ∀ q y post, ys = q ++ y :: post → ∀ lp (C' : ItC E.P l enc xs), IWp (E.rin lp) C' body (IRound (f (q ++ [y]))) ⟨n, t1 (lookT l1) y, []⟩ (f q, false))
  (hdone : Q .normal ⟨n, lookT l1, []⟩ (f ys, false)) (hstop : ∀ pre, Q .ret ⟨n, lookT l1, []⟩ (pre, true)) (hbw : E.bow = [] := by rfl) (hmk : E.mks = false := by rfl) (hrn : E.rnd = none := by rfl) :
  IWp E C (.rangeFunc gop #[p] assign body) Q s p0 := by
 refine iw_weak (l1 := l1) (m := []) hwk trivial hcl ?_ hbw;subst hn;subst hp0;exact iw_rangeFunc f gx (t1 (lookT l1)) hk (Nat.le_of_ble_eq_true hp) hg hseq hgx hassign hbody hdone hstop hbw hmk hrn
end
section
variable {E : Env} {w0 : World} {M0 : Nat → Prop}
def JmN (ρ : Rho) (Mo N : Nat → Prop) (lp D : Nat) (w : World) (st : Obj) (m : Mem) (W : World) : Prop :=
 BelowX (fun b => b = lp ∨ ∃ id ow, ρ id = some (some ow) ∧ ow.b = b) w W ∧ (∀ id blk, lookO m id = some blk → BRel W (fun b => Mo b ∨ N b) ρ id blk) ∧ W.heap[lp]? = some st ∧ W.heap[D]? = some (.deferred (some [])) ∧ ∀ b, N b → w.heap.size ≤ b
theorem JmN.turn {ρ : Rho} {Mo N : Nat → Prop} {lp D : Nat} {w W W' : World} {st : Obj} {m : Mem} (hsub : ∀ id ow, ρ id = some (some ow) → ow.b < w.heap.size) (hlp : lp < w.heap.size ∧ D < w.heap.size) (h : JmN ρ Mo N lp D w st m W) (hB : BelowX N W W') : JmN ρ Mo N lp D w st m W' := by
 obtain ⟨h1, h2, h3, h4, h5⟩ := h;refine ⟨⟨hB.os.trans h1.os, hB.tape.trans h1.tape, hB.output.trans h1.output, Nat.le_trans h1.size hB.size, fun k hk hl => ?_⟩, fun id blk hb => ?_, ?_, ?_, h5⟩
 ·exact (hB.block k (Nat.lt_of_lt_of_le hk h1.size) (fun h => by have := h5 k h; omega)).trans (h1.block k hk hl)
 ·exact (h2 id blk hb).mono none (by simp) (noref_none _) (fun ow ho => hB.block _ (Nat.lt_of_lt_of_le (hsub id ow ho) h1.size) fun h => by have := h5 _ h; have := hsub id ow ho; omega) (fun b hb hno => hB.block b hb fun h => hno (.inr h)) (fun _ _ h => h) (fun _ _ _ => rfl)
 ·exact (hB.block lp (Array.getElem?_eq_some_iff.1 h3).1 (fun h => by have := h5 _ h; omega)).trans h3
 ·exact (hB.block D (Array.getElem?_eq_some_iff.1 h4).1 (fun h => by have := h5 _ h; omega)).trans h4
theorem JmN.take {ρ : Rho} {Mo N N' : Nat → Prop} {lp D : Nat} {w W : World} {st : Obj} {m : Mem} (hN : ∀ b, N' b → N b ∨ W.heap.size ≤ b) (h : JmN ρ Mo N lp D w st m W) : JmN ρ Mo N' lp D w st m W := by
 obtain ⟨h1, h2, h3, h4, h5⟩ := h;refine ⟨h1, fun id blk hb => ?_, h3, h4, fun b hb => ?_⟩
 ·exact (h2 id blk hb).mono none (by simp) (noref_none _) (fun _ _ => rfl) (fun _ _ _ => rfl) (fun b hb h => h.imp (fun h => h) fun h => (hN b h).resolve_right (by omega)) (fun _ _ _ => rfl)
 ·rcases hN b hb with h | h
  ·exact h5 b h
  ·exact Nat.le_trans h1.size h
theorem aw_rangeFuncN {α γ : Type} {gop : Operand} {p : Tmp} {assign body : Code} {Q : Exit → ASt → Prop} {n : Nat} {t : Nat → TV} {gf : FuncId} {caps : List G} {enc : α → Value} {xs : List α}
  (m : γ → Mem) (I : List α → γ → Prop) (g0 : γ) (S1 : γ → α → ASt) (Px : Code → List α → Mem → Prop)
  (hmk : E.mks = true) (hrn : E.rnd = none) (hk : Known E.P gf) (hp : p < n)
  (hg : ASt.eval E ⟨n, t, m g0⟩ gop = .g (.fn (.func gf) [] caps)) (hseq : SeqN E gf caps enc xs) (gx : α → G) (hgx : ∀ x w M, (gx x).p w M (enc x))
  (hg0 : I [] g0) (hids : ∀ g, sameIds (m g0) (m g)) (hgood : ∀ g, goodM (m g) = true)
  (hassign : ∀ pre x post g, xs = pre ++ x :: post → I pre g → ∀ lp w1 M1 x1, AWp (E.turn lp (m g) x1) w1 M1 assign (fun e s' => e = .normal ∧ s' = S1 g x) ⟨n, upd p (.g (gx x)) t, m g⟩)
  (hlive1 : ∀ g x, liveM (S1 g x).mem = true)
  (hbody : ∀ pre x post g, xs = pre ++ x :: post → I pre g → ∀ lp w1 M1 x1, AWp (E.turn lp (S1 g x).mem x1) w1 M1 body (RoundQ m I Px (m g0) (pre ++ [x])) (S1 g x))
  (hdone : ∀ g, I xs g → Q .normal ⟨n, t, m g⟩)
  (hstop : ∀ c pre mx, Px c pre mx → AWp E w0 M0 c Q ⟨n, t, mx⟩) : AWp E w0 M0 (.rangeFunc gop #[p] assign body) Q ⟨n, t, m g0⟩ := by
 intro a w ha;obtain ⟨ρ, hm, hmks, ht⟩ := ha.ex
 have hF : E.F = Fence.wide := by unfold Env.F; rw [hrn]; rfl
 obtain ⟨fs, cs, hge, hfs, hcs⟩ : (G.fn (.func gf) [] caps).p w (owned M0 ρ) (a.eval gop) := by
  have := eval_rel hm ht gop;rw [hg] at this;exact this
 obtain rfl : fs = [] := by cases fs with
  | nil => rfl
  | cons => exact hfs.elim
 obtain ⟨fng, k1, k2, k3⟩ := hk;refine wpIn_rangeFunc ?_;intro fn _;obtain ⟨rec, hrec⟩ : ∃ rec : LoopState → Option Code → Loop, rec = fun st pe => { state := st, pending := pe, fn, tmps := a.tmps, params := #[p], assign, body, defers := w.heap.size } := ⟨_, rfl⟩;obtain ⟨w2, hw2⟩ : ∃ w2, (w.alloc (.deferred (some []))).alloc (.loop (rec .ready none)) = w2 := ⟨_, rfl⟩
 have hgr : Grow w w2 := by rw [← hw2]; exact (Grow.alloc w _).trans (Grow.alloc _ _)
 have hsz : w2.heap.size = w.heap.size + 2 := by rw [← hw2]; simp
 have hL : w2.heap[w.heap.size + 1]? = some (.loop (rec .ready none)) := by
  rw [← hw2]; have := World.alloc_heap_new (w.alloc (.deferred (some []))) (.loop (rec .ready none)); rwa [World.size_alloc] at this
 have hD : w2.heap[w.heap.size]? = some (.deferred (some [])) := by
  rw [← hw2]; exact (RowKit.Below.heap_alloc _ _ _ (by simp)).trans (World.alloc_heap_new w _)
 have hρlt : ∀ id ow, ρ id = some (some ow) → ow.b < w.heap.size := fun id ow h => (hm.fresh id ow h).2
 have hrun : (Instr.enterLoop fn a.tmps #[p] assign body E.F.round).run E.P w = .ok (w.heap.size + 1, [{ target := .collected w.heap.size, args := #[] }]) w2 := by
  rw [← hw2, hrec, hF]; exact run_enterLoop_outer _ _ _ _ _
 clear hw2;generalize hDD : w.heap.size = D at *;generalize hlpp : D + 1 = lp at *
 let Mo : Nat → Prop := fun b => owned M0 ρ b ∨ b = D ∨ b = lp
 let L : Nat → Prop := fun b => b = lp ∨ ∃ id ow, ρ id = some (some ow) ∧ ow.b = b
 have hLMo : ∀ b, L b → Mo b := by
  rintro b (h | ⟨id, ow, h, rfl⟩)
  ·exact .inr (.inr h)
  ·exact .inl (.inr ⟨id, ow, h, rfl⟩)
 have hsubMo : ∀ id ow, ρ id = some (some ow) → Mo ow.b := fun id ow h => .inl (.inr ⟨id, ow, h, rfl⟩)
 have hMow : ∀ b, Mo b → b < w2.heap.size := by
  rintro b (h | h | h)
  ·have := hm.lt b h; omega
  ·omega
  ·omega
 have hMoSub : ∀ b, b < w.heap.size → Mo b → owned M0 ρ b := by
  rintro b hb (h | h | h)
  ·exact h
  ·omega
  ·omega
 have hgl2 : GlOk E w2 Mo := fun g vs hgv => by
  obtain ⟨⟨g1, g2⟩, g3⟩ := hm.glob g vs hgv;refine ⟨⟨?_, by omega⟩, g3.mono hgr.hh hMoSub g1⟩;rintro (h | h | h)
  ·exact g1 h
  ·omega
  ·omega
 have hdom : ∀ gg id y, ρ id = some y → ∃ blk, lookO (m gg) id = some blk := fun gg id y h => by
  rw [look_ids, hids gg, ← look_ids]; exact hm.dom id y h
 let x0 : Nat → Option Own := fun id => (ρ id).getD none
 have hx00 : ∀ id blk, lookO (m g0) id = some blk → ρ id = some (x0 id) := fun id blk h => by
  have h1 := List.all_eq_true.1 (hgood g0) _ (lookO_mem _ h);simp only [Bool.and_eq_true] at h1;obtain ⟨y, hy⟩ := (hm.blk id blk h).has h1.1;simp only [x0, hy, Option.getD_some]
 have hx0 : ∀ mx, sameIds (m g0) mx → ∀ id blk, lookO mx id = some blk → ρ id = some (x0 id) := fun mx hs id blk h => by
  obtain ⟨b0, hb0⟩ : ∃ b0, lookO (m g0) id = some b0 := by rw [look_ids, ← hs, ← look_ids]; exact ⟨_, h⟩
  exact hx00 id b0 hb0
 have hhW : ∀ W, BelowX L w2 W → ∀ b, b < w2.heap.size → ¬ Mo b → W.heap[b]? = w2.heap[b]? := fun W h b hb hno => h.block b hb fun hl => hno (hLMo b hl)
 have htW : ∀ W, BelowX L w2 W → ∀ i, TRel W Mo ρ (t i) (a.tmps.getD i undef) := fun W h i =>
  ((ht i).mono none (by cases ASt.get ⟨n, t, m g0⟩ i <;> rfl) hgr.hh hMoSub (fun _ _ _ => rfl)).mono none (by cases ASt.get ⟨n, t, m g0⟩ i <;> rfl) (hhW W h) (fun _ _ h => h) (fun _ _ _ => rfl)
 have hglN : ∀ W (N : Nat → Prop), BelowX L w2 W → (∀ b, N b → w2.heap.size ≤ b) → GlOk E W (fun b => Mo b ∨ N b) := fun W N h hN g vs hgv => by
  obtain ⟨⟨g1, g2⟩, g3⟩ := hgl2 g vs hgv
  have hs : ∀ b, b < w2.heap.size → (Mo b ∨ N b) → Mo b := fun b hb hx => hx.resolve_right fun k => by have := hN b k; omega
  exact ⟨⟨fun k => g1 (hs g g2 k), by have := h.size; omega⟩, g3.mono (fun b hb hno => hhW W h b hb hno) hs g1⟩
 have htWN : ∀ W (N : Nat → Prop), BelowX L w2 W → (∀ b, N b → w2.heap.size ≤ b) → ∀ i, TRel W (fun b => Mo b ∨ N b) ρ (t i) (a.tmps.getD i undef) := fun W N h hN i =>
  (((ht i).mono none (by cases ASt.get ⟨n, t, m g0⟩ i <;> rfl) hgr.hh hMoSub (fun _ _ _ => rfl) : TRel w2 Mo ρ (t i) (a.tmps.getD i undef))).mono none (by cases ASt.get ⟨n, t, m g0⟩ i <;> rfl) (hhW W h) (fun b hb hx => hx.resolve_right fun k => by have := hN b k; omega) (fun _ _ _ => rfl)
 -- behind the loop
 have back : ∀ mx W' st pe N, sameIds (m g0) mx → JmN ρ Mo N lp D w2 (.loop (rec st pe)) mx W' →
   ARel E w0 M0 ⟨n, t, mx⟩ { a with defers := { target := .collected D, args := #[] } :: a.defers } (W'.putObj lp (.loop { rec st pe with state := .exhausted })) := by
  rintro mx W' st pe N hs ⟨j1, j2, j3, j4, j5⟩;have hfull : BelowX L w2 (W'.putObj lp (.loop { rec st pe with state := .exhausted })) := j1.trans (put_belowX _ _ _ (.inl rfl))
  have hhw : ∀ b, b < w.heap.size → ¬ owned M0 ρ b → (W'.putObj lp (.loop { rec st pe with state := .exhausted })).heap[b]? = w.heap[b]? := fun b hb hno =>
   (hhW _ hfull b (by omega) fun h => hno (hMoSub b hb h)).trans (hgr.block b hb)
  have hsize : w.heap.size ≤ (W'.putObj lp (.loop { rec st pe with state := .exhausted })).heap.size := by have := hfull.size; omega
  refine ⟨(fun h => by rw [hmk] at h; cases h), ha.size, ρ, ⟨?_, hm.m0, ?_, ?_, ?_, hm.inj, hm.keep, hm.lentM, ?_⟩, ?_, fun i => ?_⟩
  ·refine ⟨hfull.os.trans (hgr.os.trans hm.below.os), hfull.tape.trans (hgr.tape.trans hm.below.tape), hfull.output.trans (hgr.output.trans hm.below.output), Nat.le_trans hm.below.size hsize, fun k hk' hl => ?_⟩;have hkw := Nat.lt_of_lt_of_le hk' hm.below.size;refine (hfull.block k (by omega) ?_).trans ((hgr.block k hkw).trans (hm.below.block k hk' hl));rintro (h | ⟨id, ow, h, rfl⟩)
   ·omega
   ·rcases (hm.fresh id ow h).1 with g | g
    ·omega
    ·exact hl g
  ·exact hm.glob.grow hsize hhw
  ·intro id y h;rw [look_ids, hs, ← look_ids]; exact hm.dom id y h
  ·exact fun id ow h => ⟨(hm.fresh id ow h).1, Nat.lt_of_lt_of_le (hm.fresh id ow h).2 hsize⟩
  ·intro id blk hb;refine (j2 id blk hb).mono none (by simp) (noref_none _) (fun ow ho => World.putObj_heap_other ?_) (fun b _ hno => World.putObj_heap_other ?_) (fun b _ h => .inl (.inl h)) (fun _ _ _ => rfl)
   ·have := hρlt id ow ho; omega
   ·intro e; exact hno (.inl (.inr (.inr e)))
  ·refine ⟨List.nodup_cons.2 ⟨fun hd => ?_, hmks.1⟩, fun d hd => ?_⟩
   ·obtain ⟨D', q1, q2, q3⟩ := hmks.2 _ hd;have hq := (Array.getElem?_eq_some_iff.1 q3.2).1;simp only [Deferred.mk.injEq, Target.collected.injEq, and_true] at q1
    omega
   rcases List.mem_cons.1 hd with rfl | hd
   ·refine ⟨D, rfl, by have := hm.below.size; omega, ?_, (World.putObj_heap_other (by omega)).trans j4⟩;rintro (h | ⟨id, ow, h, e⟩)
    ·have := hm.m0 D h; have := hm.below.size; omega
    ·have := hρlt id ow h; omega
   ·obtain ⟨D', q1, q2, q3⟩ := hmks.2 d hd;exact ⟨D', q1, q2, (G.mark D').mono q3 hhw (fun _ _ h => h)⟩
  ·exact (ht i).mono none (by cases ASt.get ⟨n, t, m g0⟩ i <;> rfl) hhw (fun _ _ h => h) (fun _ _ _ => rfl)
 refine ⟨lp, [{ target := .collected D, args := #[] }], w2, { target := .fn (.func gf) cs.toArray, args := #[.func (.yield lp) #[] #[]] }, w2, gf,
  #[.func (.yield lp) #[] #[]] ++ cs.toArray, w2, hrun, ?_, fun _ _ => trivial, ?_, env_room, ?_⟩
 ·simp only [resolve, hge]
  simp [go_sem]
 ·simp [invoke, go_sem, run_callFunc k1 k2 k3]
 rw [hF]
 refine (hseq w2 Mo cs lp (fun N pre st W => (st = false → ∃ gg, I pre gg ∧ JmN ρ Mo N lp D w2 (.loop (rec .ready none)) (m gg) W) ∧
  (st = true → ∃ c mx, Px c pre mx ∧ sameIds (m g0) mx ∧ JmN ρ Mo N lp D w2 (.loop (rec .done (some c))) mx W)) hMow hgl2 (hcs.mono hgr.hh hMoSub) ?_ ?_ ?_ ?_).mono ?_
 ·rintro N pre st W W' ⟨h1, h2⟩ hB;exact ⟨fun h => by obtain ⟨gg, hI, hj⟩ := h1 h; exact ⟨gg, hI, hj.turn (fun id ow ho => by have := hρlt id ow ho; omega) ⟨by omega, by omega⟩ hB⟩, fun h => by obtain ⟨c, mx, q1, q2, hj⟩ := h2 h; exact ⟨c, mx, q1, q2, hj.turn (fun id ow ho => by have := hρlt id ow ho; omega) ⟨by omega, by omega⟩ hB⟩⟩
 ·rintro N N' pre st W ⟨h1, h2⟩ hN;exact ⟨fun h => by obtain ⟨gg, hI, hj⟩ := h1 h; exact ⟨gg, hI, hj.take hN⟩, fun h => by obtain ⟨c, mx, q1, q2, hj⟩ := h2 h; exact ⟨c, mx, q1, q2, hj.take hN⟩⟩
 ·-- ONE ROUND
  rintro N pre x post W1 hxs _ hN ⟨hst, _⟩;obtain ⟨gg, hI, j1, j2, j3, j4, j5⟩ := hst rfl;have hlpW1 : lp < W1.heap.size := (Array.getElem?_eq_some_iff.1 j3).1;have hy := run_yield (P := E.P) (args := #[enc x]) j3 (by rw [hrec]; rfl);refine ⟨_, _, _, _, hy, roundIn_of_wpIn trivial ?_⟩;clear hy
  have hfold : (((rec .ready none).params.zip #[enc x]).foldl (fun tmps (t, a) => tmps.setIfInBounds t a) (rec .ready none).tmps) = (a.put (some p) (enc x)).tmps := by rw [hrec]; simp [Act.put]
  have has : (rec .ready none).assign = assign := by rw [hrec]
  have hbo : (rec .ready none).body = body := by rw [hrec]
  rw [hfold, has, hbo];obtain ⟨o1, l1, mr1⟩ := mrel_turn (E := E) (x := x0) lp (mem := m gg) (W := W1) (Mo := fun b => Mo b ∨ N b) (fun b h => h.elim (fun h => Nat.lt_of_lt_of_le (hMow b h) j1.size) (fun h => (hN b h).2)) (hglN W1 N j1 j5) (hdom gg) (hx0 _ (hids gg)) (fun id ow h => .inl (hsubMo id ow h)) hm.inj j2;generalize hM1 : (fun b => (Mo b ∨ N b) ∧ ¬ ∃ id ow, ρ id = some (some ow) ∧ ow.b = b) = M1 at *
  have ha1 : ARel (E.turn lp (m gg) x0) W1 M1 ⟨n, upd p (.g (gx x)) t, m gg⟩ { tmps := (a.put (some p) (enc x)).tmps, defers := [] } W1 := by
   refine ⟨fun _ => rfl, by rw [size_put]; exact ha.size, ρ, mr1, Marks.nil, fun i => ?_⟩;rw [o1];show TRel W1 (fun b => Mo b ∨ N b) ρ (upd p (.g (gx x)) t i) ((a.put (some p) (enc x)).tmps.getD i undef);rw [getD_put a (some p) (enc x) (fun d h => by cases h; rw [ha.size]; exact hp), upd_eq]
   by_cases hpi : p = i
   ·rw [if_pos hpi, if_pos (by rw [hpi])]; exact hgx x _ _
   ·rw [if_neg hpi, if_neg (fun h => hpi (by cases h; rfl))]; exact htWN W1 N j1 j5 i
  refine wpIn_mono (hassign pre x post gg hxs hI lp W1 M1 x0 _ W1 ha1) ?_;rintro e a1 W2 ⟨s', ha2, rfl, rfl⟩;obtain ⟨ρ2, hm2, _, ht2⟩ := ha2.ex
  have hnl : ¬ (E.turn lp (m gg) x0).lent lp := fun h => by obtain ⟨id, ow, h1, h2⟩ := (l1 _).1 h; have := hρlt id ow h1; omega
  have hnD : ¬ (E.turn lp (m gg) x0).lent D := fun h => by obtain ⟨id, ow, h1, h2⟩ := (l1 _).1 h; have := hρlt id ow h1; omega
  have e3 : W2.heap[lp]? = some (.loop (rec .ready none)) := (hm2.below.block lp hlpW1 hnl).trans j3;have e4 : W2.heap[D]? = some (.deferred (some [])) := (hm2.below.block D (by omega) hnD).trans j4;refine ⟨_, run_beginRound e3 (by rw [hrec]), ?_⟩;have hlpW2 : lp < W2.heap.size := Nat.lt_of_lt_of_le hlpW1 hm2.below.size;have hρ2 : ∀ id y, ρ id = some y → ρ2 id = some y := fun id y h => hm2.keep id y ((lookO_mapk x0).2 ⟨hdom gg id y h, by simp only [x0, h, Option.getD_some]⟩)
  have hne2 : ∀ id ow, ρ2 id = some (some ow) → ow.b ≠ lp := fun id ow h e => by
   rcases (hm2.fresh id ow h).1 with g | g
   ·omega
   ·exact hnl (e ▸ g)
  have hne2D : ∀ id ow, ρ2 id = some (some ow) → ow.b ≠ D := fun id ow h e => by
   rcases (hm2.fresh id ow h).1 with g | g
   ·omega
   ·exact hnD (e ▸ g)
  have hMM : ∀ b, (Mo b ∨ N b) → owned M1 ρ2 b := fun b h => by
   have h : (fun b => Mo b ∨ N b) b := h;rw [← o1] at h
   rcases h with h | ⟨id, ow, ho, rfl⟩
   ·exact .inl h
   ·exact .inr ⟨id, ow, hρ2 id _ ho, rfl⟩
  have hh2 : ∀ b, b < W2.heap.size → ¬ owned M1 ρ2 b → (W2.putObj lp (.loop { rec .ready none with state := .busy })).heap[b]? = W2.heap[b]? := fun b _ hno =>
   World.putObj_heap_other fun e => hno (by rw [e]; exact hMM lp (.inl (.inr (.inr rfl))))
  have hx2 : ∀ id blk, lookO (S1 gg x).mem id = some blk → ρ2 id = some ((ρ2 id).getD none) := fun id blk h => by
   obtain ⟨y, hy⟩ := (hm2.blk id blk h).has (List.all_eq_true.1 (hlive1 gg x) _ (lookO_mem _ h));rw [hy]; rfl
  obtain ⟨o2, l2, mr2⟩ := mrel_turn (E := E) (x := fun id => (ρ2 id).getD none) lp (mem := (S1 gg x).mem) (W := W2.putObj lp (.loop { rec .ready none with state := .busy })) (Mo := owned M1 ρ2) (fun b h => by rw [put_size]; exact hm2.lt b h)
   (GlOk.grow (E := E) hm2.glob (by rw [put_size]; exact Nat.le_refl _) hh2) hm2.dom hx2 (fun id ow h => .inr ⟨id, ow, h, rfl⟩) hm2.inj
   (fun id blk hb => (hm2.blk id blk hb).mono none (by simp) (noref_none _) (fun ow ho => World.putObj_heap_other (hne2 id ow ho)) hh2 (fun _ _ h => h) (fun _ _ _ => rfl))
  generalize hM2 : (fun b => owned M1 ρ2 b ∧ ¬ ∃ id ow, ρ2 id = some (some ow) ∧ ow.b = b) = M2 at *;have had : a1.defers = [] := ha2.defers rfl
  have ha3 : ARel (E.turn lp (S1 gg x).mem fun id => (ρ2 id).getD none) (W2.putObj lp (.loop { rec .ready none with state := .busy })) M2 (S1 gg x) a1 (W2.putObj lp (.loop { rec .ready none with state := .busy })) := by
   refine ⟨fun _ => had, ha2.size, ρ2, mr2, by rw [had]; exact Marks.nil, fun i => ?_⟩;rw [o2];exact (ht2 i).mono none (by cases (S1 gg x).get i <;> rfl) hh2 (fun _ _ h => h) (fun _ _ _ => rfl)
  refine wpIn_mono (hbody pre x post gg hxs hI lp _ M2 _ a1 _ ha3) ?_;rintro e2 a2 W3 ⟨s3, ha4, hq⟩;obtain ⟨ρ3, hm3, _, _⟩ := ha4.ex
  have hnl2 : ¬ (E.turn lp (S1 gg x).mem fun id => (ρ2 id).getD none).lent lp := fun h => by obtain ⟨id, ow, h1, h2⟩ := (l2 _).1 h; exact hne2 id ow h1 h2
  have hnD2 : ¬ (E.turn lp (S1 gg x).mem fun id => (ρ2 id).getD none).lent D := fun h => by obtain ⟨id, ow, h1, h2⟩ := (l2 _).1 h; exact hne2D id ow h1 h2
  have f3 : W3.heap[lp]? = some (.loop { rec .ready none with state := .busy }) := (hm3.below.block lp (by rw [put_size]; exact hlpW2) hnl2).trans (World.putObj_heap_same hlpW2);have f4 : W3.heap[D]? = some (.deferred (some [])) := (hm3.below.block D (by rw [put_size]; omega) hnD2).trans ((World.putObj_heap_other (by omega)).trans e4)
  have b13 : BelowX L W1 W3 := by
   have hb := hm3.below;have hb2 := hm2.below;refine ⟨hb.os.trans hb2.os, hb.tape.trans hb2.tape, hb.output.trans hb2.output, by have := hb.size; rw [put_size] at this; exact Nat.le_trans hb2.size this, fun k hk hl => ?_⟩;refine (hb.block k (by rw [put_size]; exact Nat.lt_of_lt_of_le hk hb2.size) ?_).trans ((World.putObj_heap_other fun e => hl (.inl e)).trans (hb2.block k hk fun h => hl (.inr ((l1 k).1 h))));intro h;obtain ⟨id, ow, h1, rfl⟩ := (l2 _).1 h
   rcases (hm2.fresh id ow h1).1 with g | g
   ·omega
   ·exact hl (.inr ((l1 _).1 g))
  have fin : ∀ (mx : Mem) (jump : Option Code), sameIds (m g0) mx → goodM mx = true → MemL s3 mx →
    ∃ W4, (Instr.endRound lp jump).run E.P W3 = .ok (.bool jump.isNone) W4 ∧ BelowX Mo W1 W4 ∧ JmN ρ Mo N lp D w2 (.loop (rec (if jump.isNone then .ready else .done) jump)) mx W4 := by
   intro mx jump hs hgd hml;have hr := run_endRound (P := E.P) jump f3
   have hrr : ({ ({ rec .ready none with state := .busy } : Loop) with state := if jump.isNone then .ready else .done, pending := jump } : Loop) = rec (if jump.isNone then .ready else .done) jump := by rw [hrec]
   rw [hrr] at hr;have b14 : BelowX L W1 (W3.putObj lp (.loop (rec (if jump.isNone then .ready else .done) jump))) := b13.trans (put_belowX _ _ _ (.inl rfl));refine ⟨_, hr, b14.mono hLMo, j1.trans b14, fun id blk hb => ?_, World.putObj_heap_same (Array.getElem?_eq_some_iff.1 f3).1, (World.putObj_heap_other (by omega)).trans f4, j5⟩;have hρid := hx0 mx hs id blk hb;have hρ2id := hρ2 id _ hρid;have hρ3 : ∀ id y, ρ2 id = some y → ρ3 id = some y := fun id y h => hm3.keep id y ((lookO_mapk (fun id => (ρ2 id).getD none)).2 ⟨hm2.dom id y h, by simp only [h, Option.getD_some]⟩)
   have hsub3 : ∀ b, (Mo b ∨ N b) → owned M2 ρ3 b := fun b h => by
    have h1 := hMM b h;rw [← o2] at h1
    rcases h1 with h1 | ⟨id, ow, h1, rfl⟩
    ·exact .inl h1
    ·exact .inr ⟨id, ow, hρ3 id _ h1, rfl⟩
   have hgr2 := List.all_eq_true.1 hgd _ (lookO_mem _ hb);simp only [Bool.and_eq_true] at hgr2;have h5 : BRel W3 (fun b => Mo b ∨ N b) ρ id blk := BRel.ground hgr2.2 (hρid.trans (hρ3 id _ hρ2id).symm) ((hm3.blk id blk (memL_look hml id blk hb)).sub hsub3);exact h5.mono none (by simp) (noref_none _) (fun ow ho => World.putObj_heap_other (by have := hρlt id ow ho; omega)) (fun b _ hno => World.putObj_heap_other fun e => hno (.inl (.inr (.inr e)))) (fun _ _ h => h) (fun _ _ _ => rfl)
  cases e2 with
  | normal =>
   obtain ⟨g', hI', hq⟩ := hq;obtain ⟨W4, g1, g2, g3⟩ := fin (m g') none (hids _) (hgood _) hq;exact ⟨_, W4, g1, g2, _, rfl, ⟨(fun _ => ⟨g', hI', g3⟩), (fun h => by cases h)⟩⟩
  | ret =>
   obtain ⟨mx, q1, q2, q3, q4⟩ := hq;obtain ⟨W4, g1, g2, g3⟩ := fin mx (some .ret) q2 q3 q4;exact ⟨_, W4, g1, g2, _, rfl, ⟨(fun h => by cases h), fun _ => ⟨_, mx, q1, q2, g3⟩⟩⟩
  | exit id =>
   obtain ⟨mx, q1, q2, q3, q4⟩ := hq;obtain ⟨W4, g1, g2, g3⟩ := fin mx (some (.exit id)) q2 q3 q4;exact ⟨_, W4, g1, g2, _, rfl, ⟨(fun h => by cases h), fun _ => ⟨_, mx, q1, q2, g3⟩⟩⟩
  | _ => exact hq.elim
 ·-- AT THE START
  refine ⟨fun _ => ⟨g0, hg0, BelowX.refl _ w2, fun id blk hb => ?_, hL, hD, fun _ h => h.elim⟩, fun h => by cases h⟩;exact (hm.blk id blk hb).mono none (by simp) (noref_none _) (fun ow ho => hgr.block _ (by have := hρlt id ow ho; omega)) hgr.hh (fun b hb h => hMoSub b hb (h.resolve_right (fun h => h))) (fun _ _ _ => rfl)
 ·-- BEHIND THE ITERATOR
  rintro e W' ⟨⟨v, rfl⟩, ⟨hJ, _⟩ | ⟨pre, _, hJ⟩⟩
  ·obtain ⟨gg, hI, hJ⟩ := hJ rfl;refine ⟨none, _, ?_, _, back _ _ _ _ _ (hids gg) hJ, hdone gg hI⟩;have := run_endLoop (P := E.P) hJ.2.2.1 (by rw [hrec]; simp);rw [this, hrec]
  ·obtain ⟨c, mx, q1, q2, hJ⟩ := hJ rfl;have hl := run_endLoop (P := E.P) hJ.2.2.1 (by rw [hrec]; simp);have hb := hstop c pre mx q1 _ _ (back _ _ _ _ _ q2 hJ);rw [hF] at hb
   have hpe : (rec .done (some c)).pending = some c := by rw [hrec]
   refine ⟨some c, _, ?_, hb⟩;rw [hl];subst hrec
   rfl
theorem aw_rangeCN {α γ : Type} {gop : Operand} {p : Tmp} {assign body : Code} {Q : Exit → ASt → Prop} {n : Nat} {l : List (Nat × TV)} {gf : FuncId} {caps : List G} {enc : α → Value} {s : ASt}
  (xs : List α) (m : γ → Mem) (K : List α → γ → Prop) (g0 : γ) (S1 : γ → α → (Nat → TV) × Mem)
  (hn : s.n = n) (hwk : WeakL s l) (hwm : MemL s (m g0)) (hcl : closedB l (m g0) = true)
  (hg : ASt.eval E ⟨n, lookT l, m g0⟩ gop = .g (.fn (.func gf) [] caps)) (hk : Known E.P gf) (hseq : SeqN E gf caps enc xs) (gx : α → G) (hgx : ∀ x w M, (gx x).p w M (enc x))
  (hK0 : K xs g0) (hp : Nat.blt p n = true) (hids : ∀ g, sameIds (m g0) (m g)) (hgood : ∀ g, goodM (m g) = true)
  (hassign : ∀ x g lp w1 M1 x1, AWp (E.turn lp (m g) x1) w1 M1 assign (fun e s' => e = .normal ∧ s' = ⟨n, (S1 g x).1, (S1 g x).2⟩) ⟨n, upd p (.g (gx x)) (lookT l), m g⟩)
  (hlive1 : ∀ g x, liveM (S1 g x).2 = true)
  (hbody : ∀ x post g, (∃ pre, xs = pre ++ x :: post) → K (x :: post) g → ∀ lp w1 M1 x1, AWp (E.turn lp (S1 g x).2 x1) w1 M1 body (RoundC E w0 M0 Q n (lookT l) m (K post) (m g0)) ⟨n, (S1 g x).1, (S1 g x).2⟩)
  (hdone : ∀ g, K [] g → Q .normal ⟨n, lookT l, m g⟩)
  (hbw : bowIn E (m g0) = true := by rfl) (hmk : E.mks = true := by rfl) (hrn : E.rnd = none := by rfl) : AWp E w0 M0 (.rangeFunc gop #[p] assign body) Q s := by
 refine aw_weak (l := l) hwk hwm hcl ?_ hbw;show AWp E w0 M0 _ Q ⟨s.n, lookT l, m g0⟩;rw [hn];refine aw_rangeFuncN m (fun pre g => ∃ tl, xs = pre ++ tl ∧ K tl g) g0 (fun g x => ⟨n, (S1 g x).1, (S1 g x).2⟩) (fun c _ mx => AWp E w0 M0 c Q ⟨n, lookT l, mx⟩) hmk hrn hk (Nat.le_of_ble_eq_true hp) hg hseq gx hgx ⟨xs, rfl, hK0⟩ hids hgood
  (fun pre x post g _ _ lp w1 M1 x1 => hassign x g lp w1 M1 x1) hlive1 ?_ ?_ (fun _ _ _ h => h)
 ·rintro pre x post g hxs ⟨tl, htl, hK⟩ lp w1 M1 x1;obtain rfl : tl = x :: post := List.append_cancel_left (htl.symm.trans hxs);refine (hbody x post g ⟨pre, hxs⟩ hK lp w1 M1 x1).mono ?_;rintro e s' h
  cases e with
  | normal =>
   obtain ⟨g', h1, h2⟩ := h;exact ⟨g', ⟨post, by rw [hxs]; simp, h1⟩, h2⟩
  | ret => exact h
  | exit id => exact h
  | _ => exact h
 ·rintro g ⟨tl, htl, hK⟩
  obtain rfl : tl = [] := by
   have := congrArg List.length htl
   simp at this
   exact this
  exact hdone g hK
end
end Go.Sim
set_option maxRecDepth 10000
namespace Go.Sim
open Go.Proofs
abbrev limG (a2 : S2062) : List G := [G.str a2.Name, G.str a2.Kind, G.str a2.Terminal, G.int a2.Length, G.int a2.Step, G.int a2.fFrom, G.int a2.fTo, G.int a2.Period.fFrom, G.int a2.Period.fTo, G.int a2.Period.Days, G.int a2.Most]
def bF (a2 : S2062) : Int := IntKind.i64.wrap (Int.tdiv (IntKind.i64.wrap ((IntKind.i64.wrap (a2.fFrom + a2.Step)) - 1)) a2.Step)
def bN (a2 : S2062) : Int := max 0 (IntKind.i64.wrap ((IntKind.i64.wrap ((IntKind.i64.wrap (Int.tdiv a2.fTo a2.Step)) - (bF a2))) + 1))
def bAt (a2 : S2062) (a1 : Int) (x1 : Int) : Int := IntKind.i64.wrap ((IntKind.i64.wrap (1440 * a1)) + (IntKind.i64.wrap (a2.Step * (IntKind.i64.wrap ((bF a2) + x1)))))
def begL (a2 : S2062) (a1 : Int) : List Int := bif ((decide (a1 < a2.Period.fFrom)) || (decide (a2.Period.fTo < a1))) || (!(s2115 a2 a1)) then [] else (List.range (bN a2).toNat).map fun n => bAt a2 a1 (n : Nat)
theorem range_cut {α : Type} (f : Nat → α) {k n : Nat} (h : k < n) : (List.range n).map f = (List.range k).map f ++ f k :: (List.range' (k + 1) (n - k - 1)).map f := by
 have e : List.range n = List.range k ++ k :: List.range' (k + 1) (n - k - 1) := by
  rw [List.range_eq_range', List.range_eq_range', show n = k + ((n - k - 1) + 1) by omega, ← List.range'_append_1, Nat.zero_add, List.range'_succ]
  simp
 rw [e, List.map_append, List.map_cons]
theorem wrap_rngB (n : Int) : -9223372036854775808 ≤ IntKind.i64.wrap n ∧ IntKind.i64.wrap n ≤ 9223372036854775807 := by rw [IntKind.wrap_i64]; omega
theorem seq_begins {g : List (Nat × List Value)} (a2 : S2062) (a1 : Int) (hst : a2.Step ≠ 0) : SeqN (EG g) 114 [G.ref [G.int a1], G.ref (limG a2)] (Value.int .i64) (begL a2 a1) := by
 refine seqN_of_iw Tryz.func114 rfl rfl rfl fun l C => ?_;refine iw_seq ?_;refine iw_seq ?_;refine iw_region [.p, .p, .p, .p, .p, .p, .p, .p, .p, .p, .p, .p, .p, .p, .p, .p, .p, .p] ?_;refine st rfl rfl (eff_load rfl ty3 rfl) rfl ?_;refine st rfl rfl (eff_fieldAddr rfl fl2063_7 rfl) rfl ?_;refine st rfl rfl (eff_fieldAddr rfl fl46_0 rfl) rfl ?_;refine st rfl rfl (eff_load rfl ty3 rfl) rfl ?_;refine st rfl rfl (eff_lss rfl rfl rfl) rfl ?_;refine st rfl rfl (eff_moveg rfl rfl) rfl ?_;refine st_g rfl rfl rfl (gb_bool _ _) (fun h => eff_load rfl ty3 rfl) rfl ?_;refine st_g rfl rfl rfl (gb_bool _ _) (fun h => eff_fieldAddr rfl fl2063_7 rfl) rfl ?_;refine st_g rfl rfl rfl (gb_bool _ _) (fun h => eff_fieldAddr rfl fl46_1 (gd h rfl)) rfl ?_;refine st_g rfl rfl rfl (gb_bool _ _) (fun h => eff_load rfl ty3 (gd h rfl)) rfl ?_;refine st_g rfl rfl rfl (gb_bool _ _) (fun h => eff_gtr rfl (gd h rfl) (gd h rfl)) rfl ?_;refine st rfl rfl (eff_or rfl rfl rfl rfl) rfl ?_;refine st rfl rfl (eff_moveg rfl rfl) rfl ?_;refine st_g rfl rfl rfl (gb_bool _ _) (fun h => eff_loadA rfl ty2063 rfl rfl rfl) rfl ?_;refine st_g rfl rfl rfl (gb_bool _ _) (fun h => eff_load rfl ty3 rfl) rfl ?_;refine st_g rfl rfl rfl (gb_bool _ _) (fun h => eff_call rfl K2115 rfl (c2115 a2 a1) (ag_cons (gd h rfl) (ag_cons (gd h rfl) ag_nil))) rfl ?_;refine st_g rfl rfl rfl (gb_bool _ _) (fun h => eff_not rfl (gd h rfl)) rfl ?_;refine st rfl rfl (eff_or rfl rfl rfl rfl) rfl ?_;refine st_nil ?_;refine iw_cond _ rfl (fun h1 => ?_) (fun h1 => ?_)
 ·replace h1 : (((decide (a1 < a2.Period.fFrom)) || (decide (a2.Period.fTo < a1))) || (!(s2115 a2 a1))) = true := h1;refine iw_ret ?_;refine .inr ?_;unfold begL;rw [h1]
  rfl
 ·replace h1 : (((decide (a1 < a2.Period.fFrom)) || (decide (a2.Period.fTo < a1))) || (!(s2115 a2 a1))) = false := h1
  have hxs : begL a2 a1 = (List.range (bN a2).toNat).map fun n => bAt a2 a1 (n : Nat) := by
   unfold begL;rw [h1]
   rfl
  have hbn : 0 ≤ bN a2 ∧ bN a2 ≤ 9223372036854775807 := by
   have := wrap_rngB (IntKind.i64.wrap ((IntKind.i64.wrap (Int.tdiv a2.fTo a2.Step)) - (bF a2)) + 1);unfold bN; omega
  refine iw_skip ?_;refine iw_seq ?_;refine iw_region [.p, .p, .p, .p, .p, .p, .p, .p, .p, .p] ?_;refine st rfl rfl (eff_fieldAddr rfl fl2063_5 rfl) rfl ?_;refine st rfl rfl (eff_load rfl ty3 rfl) rfl ?_;refine st rfl rfl (eff_fieldAddr rfl fl2063_4 rfl) rfl ?_;refine st rfl rfl (eff_load rfl ty3 rfl) rfl ?_;refine st rfl rfl (eff_addw rfl rfl rfl) rfl ?_;refine st rfl rfl (eff_subw rfl rfl rfl) rfl ?_;refine st rfl rfl (eff_fieldAddr rfl fl2063_4 rfl) rfl ?_;refine st rfl rfl (eff_load rfl ty3 rfl) rfl ?_;refine st rfl rfl (eff_quow rfl rfl rfl hst) rfl ?_;refine st rfl rfl (eff_assigng rfl rfl) rfl ?_;refine st_nil ?_;refine iw_seq ?_;refine iw_region [.p, .p, .p, .p, .p, .p, .p, .p, .p, .p] ?_;refine st rfl rfl (eff_fieldAddr rfl fl2063_6 rfl) rfl ?_;refine st rfl rfl (eff_load rfl ty3 rfl) rfl ?_;refine st rfl rfl (eff_fieldAddr rfl fl2063_4 rfl) rfl ?_;refine st rfl rfl (eff_load rfl ty3 rfl) rfl ?_;refine st rfl rfl (eff_quow rfl rfl rfl hst) rfl ?_;refine st rfl rfl (eff_moveg rfl rfl) rfl ?_;refine st rfl rfl (eff_subw rfl rfl rfl) rfl ?_;refine st rfl rfl (eff_addw rfl rfl rfl) rfl ?_;refine st rfl rfl (eff_max rfl rfl rfl) rfl ?_;refine st rfl rfl (eff_moveg rfl rfl) rfl ?_;refine st_nil ?_;refine iw_block ?_;refine iw_loop_g (γ := Nat) (fun g => [(0, .g (G.lit (.func (.yield l) #[] #[]))), (1, .g (G.ref [G.int a1])), (2, .g (G.ref (limG a2))), (4, .g (G.int (bF a2))), (41, .g (G.int (bN a2))), (42, .g (G.int ((g : Nat) : Int)))])
   (fun g => ((List.range g).map fun n => bAt a2 a1 (n : Nat), false)) (fun g => g ≤ (bN a2).toNat) (fun g => (bN a2).toNat - g) ⟨rfl, 0, ⟨rfl, rfl, rfl, rfl, rfl, rfl, trivial⟩, rfl, rfl, Nat.zero_le _, trivial⟩ ?_
  ·intro k hk;refine iw_seq ?_;refine iw_region [.p] ?_;refine st rfl rfl (eff_lss rfl rfl rfl) rfl ?_;refine st_nil ?_;refine iw_seq ?_;refine iw_cond _ rfl (fun h2 => ?_) (fun h2 => ?_)
   ·replace h2 : (decide (((k : Nat) : Int) < bN a2)) = true := h2;replace h2 := decT h2
    have hk2 : k < (bN a2).toNat := by omega
    refine iw_skip ?_;refine iw_seq ?_;refine iw_block ?_;refine iw_seq ?_;refine iw_region [.p, .p] ?_;refine st rfl rfl (eff_moveg rfl rfl) rfl ?_;refine st rfl rfl (eff_assigng rfl rfl) rfl ?_;refine st_nil ?_;refine iw_seq ?_;refine iw_regionY [some .p, some .p, some .p, some .p, some .p, some .p, some .p, some .p, some .p, some .p, none, some .p] ?_;refine ist (st rfl rfl (eff_moveg rfl rfl) rfl (st_nil ?_));refine ist (st rfl rfl (eff_load rfl ty3 rfl) rfl (st_nil ?_));refine ist (st rfl rfl (eff_mulw rfl rfl rfl) rfl (st_nil ?_));refine ist (st rfl rfl (eff_fieldAddr rfl fl2063_4 rfl) rfl (st_nil ?_));refine ist (st rfl rfl (eff_load rfl ty3 rfl) rfl (st_nil ?_));refine ist (st rfl rfl (eff_moveg rfl rfl) rfl (st_nil ?_));refine ist (st rfl rfl (eff_moveg rfl rfl) rfl (st_nil ?_));refine ist (st rfl rfl (eff_addw rfl rfl rfl) rfl (st_nil ?_));refine ist (st rfl rfl (eff_mulw rfl rfl rfl) rfl (st_nil ?_));refine ist (st rfl rfl (eff_addw rfl rfl rfl) rfl (st_nil ?_));refine iy (bAt a2 a1 (k : Nat)) rfl rfl rfl rfl rfl rfl (fun w M ρ v h => h) (by rw [hxs]; exact range_cut _ hk2) fun b => ?_;refine ist (st rfl rfl (eff_not rfl rfl) rfl (st_nil ?_));refine ist_nil ?_;refine iw_cond (!b) rfl (fun h4 => ?_) (fun h4 => ?_)
    ·refine iw_ret ?_;exact .inl h4
    ·have hb : b = true := by simpa using h4
     subst hb;refine iw_skip ?_;refine iw_region [.p, .p] ?_;refine st rfl rfl (eff_add rfl rfl rfl (by (try dsimp only); unfold I64; omega)) rfl ?_;refine st rfl rfl (eff_moveg rfl rfl) rfl ?_;refine st_nil ?_;refine ⟨rfl, k + 1, ⟨rfl, rfl, rfl, rfl, rfl, rfl, trivial⟩, rfl, ?_, hk2, ?_⟩
     ·show _ = ((List.range (k + 1)).map _, false);rw [List.range_succ, List.map_append]; rfl
     ·show _ - (k + 1) < _; omega
   ·replace h2 : (decide (((k : Nat) : Int) < bN a2)) = false := h2;replace h2 := decF h2
    have hk2 : k = (bN a2).toNat := by omega
    refine iw_exit ?_;refine .inr ?_;rw [hxs, hk2]
end Go.Sim
set_option maxRecDepth 10000
namespace Go.Sim
open Go.Proofs
theorem kty146 : tyK Tryz.prog 146 = some (1, false) := by kernel_rfl
theorem kty152 : tyK Tryz.prog 152 = some (1, false) := by kernel_rfl
theorem kB114 : Known Tryz.prog 114 := ⟨_, Tryz.func114, by kernel_rfl, by kernel_rfl⟩
theorem kB139 : Known Tryz.prog 139 := ⟨_, Tryz.func139, by kernel_rfl, by kernel_rfl⟩
theorem kB60 : Known Tryz.prog 60 := ⟨_, Tryz.func60, by kernel_rfl, by kernel_rfl⟩
theorem kB101 : Known Tryz.prog 101 := ⟨_, Tryz.func101, by kernel_rfl, by kernel_rfl⟩
theorem c2060 {g : List (Nat × List Value)} (a2 : S2062) (a1 : Int) : Con (EG g) 60 [G.agg (limG a2), G.int a1] (G.fn (.func 114) [] [G.ref [G.int a1], G.ref (limG a2)]) := by
 refine con_of_aw Tryz.func60 rfl rfl fun w0 M0 => ?_;refine aw_seq ?_;refine aw_region [.p, .p, .p] ?_;refine st rfl rfl (eff_box rfl rfl) rfl ?_;refine st rfl rfl (eff_box rfl rfl) rfl ?_;refine st rfl rfl (eff_assigng rfl rfl) rfl ?_;refine st_nil ?_;refine aw_seq ?_;refine aw_region [.p, .p] ?_;refine st rfl rfl (eff_makeF rfl rfl rfl) rfl ?_;refine st rfl rfl (eff_assigng rfl rfl) rfl ?_;refine st_nil ?_;refine aw_ret ?_;exact res_c rfl (rv_g rfl)
theorem c2101 {g : List (Nat × List Value)} (a2 : S2062) : Con (EG g) 101 [G.agg (limG a2)] (G.fn (.func 139) [] [G.ref (limG a2)]) := by
 refine con_of_aw Tryz.func101 rfl rfl fun w0 M0 => ?_;refine aw_seq ?_;refine aw_region [.p, .p] ?_;refine st rfl rfl (eff_box rfl rfl) rfl ?_;refine st rfl rfl (eff_assigng rfl rfl) rfl ?_;refine st_nil ?_;refine aw_seq ?_;refine aw_region [.p, .p] ?_;refine st rfl rfl (eff_makeF rfl rfl rfl) rfl ?_;refine st rfl rfl (eff_assigng rfl rfl) rfl ?_;refine st_nil ?_;refine aw_ret ?_;exact res_c rfl (rv_g rfl)
def wdsL (a2 : S2062) (n : Nat) : List Int := (List.range n).flatMap fun (k : Nat) => begL a2 (a2.Period.fFrom + (k : Nat))
def windL (a2 : S2062) : List Int := wdsL a2 (a2.Period.fTo + 1 - a2.Period.fFrom).toNat
theorem wds_succ (a2 : S2062) (n : Nat) : wdsL a2 (n + 1) = wdsL a2 n ++ begL a2 (a2.Period.fFrom + (n : Nat)) := by
 unfold wdsL; rw [List.range_succ, List.flatMap_append]; simp
theorem wds_cut (a2 : S2062) {k n : Nat} (h : k ≤ n) : ∃ post, wdsL a2 n = wdsL a2 k ++ post := by
 induction n with
 | zero =>
  obtain rfl : k = 0 := by omega
  exact ⟨[], by simp⟩
 | succ n ih =>
  by_cases hk : k ≤ n
  ·obtain ⟨post, hp⟩ := ih hk;exact ⟨post ++ begL a2 (a2.Period.fFrom + (n : Nat)), by rw [wds_succ, hp, List.append_assoc]⟩
  ·obtain rfl : k = n + 1 := by omega
   exact ⟨[], by simp⟩
theorem seq_windows {g : List (Nat × List Value)} (a2 : S2062) (hst : a2.Step ≠ 0) (hf : 0 ≤ a2.Period.fFrom) (ht : a2.Period.fTo ≤ 1000000) : SeqN (EG g) 139 [G.ref (limG a2)] (Value.int .i64) (windL a2) := by
 refine seqN_of_iw Tryz.func139 rfl rfl rfl fun l C => ?_;refine iw_seq ?_;refine iw_region [.p] ?_;refine st rfl rfl (eff_box rfl rfl) rfl ?_;refine st_nil ?_;refine iw_seq ?_;refine iw_region [.p, .p, .p, .p] ?_;refine st rfl rfl (eff_fieldAddr rfl fl2063_7 rfl) rfl ?_;refine st rfl rfl (eff_fieldAddr rfl fl46_0 rfl) rfl ?_;refine st rfl rfl (eff_load rfl ty3 rfl) rfl ?_;refine st rfl rfl (eff_assigng rfl rfl) rfl ?_;refine st_nil ?_;refine iw_block ?_;refine iw_loop_g (γ := Nat) (fun k => [(1, .g (G.ref (limG a2))), (2, .g (G.ref [G.lit (.func (.yield l) #[] #[])])), (3, .g (G.int (a2.Period.fFrom + ((k : Nat) : Int))))])
  (fun k => (wdsL a2 k, false)) (fun k => k ≤ (a2.Period.fTo + 1 - a2.Period.fFrom).toNat) (fun k => (a2.Period.fTo + 1 - a2.Period.fFrom).toNat - k) ⟨rfl, 0, ⟨rfl, rfl, ?_, trivial⟩, rfl, rfl, Nat.zero_le _, trivial⟩ ?_
 ·show TV.g (G.int a2.Period.fFrom) = _
  simp
 intro k hk;refine iw_seq ?_;refine iw_seq ?_;refine iw_region [.p, .p, .p, .p, .p] ?_;refine st rfl rfl (eff_moveg rfl rfl) rfl ?_;refine st rfl rfl (eff_fieldAddr rfl fl2063_7 rfl) rfl ?_;refine st rfl rfl (eff_fieldAddr rfl fl46_1 rfl) rfl ?_;refine st rfl rfl (eff_load rfl ty3 rfl) rfl ?_;refine st rfl rfl (eff_leq rfl rfl rfl) rfl ?_;refine st_nil ?_;refine iw_cond _ rfl (fun h2 => ?_) (fun h2 => ?_)
 ·replace h2 : (decide (a2.Period.fFrom + ((k : Nat) : Int) ≤ a2.Period.fTo)) = true := h2;replace h2 := decT h2;obtain ⟨post0, hpost⟩ := wds_cut a2 (k := k + 1) (n := (a2.Period.fTo + 1 - a2.Period.fFrom).toNat) (by omega);rw [wds_succ] at hpost;refine iw_skip ?_;refine iw_seq ?_;refine iw_block ?_;refine iw_seq ?_;refine iw_region [.p, .p, .p] ?_;refine st rfl rfl (eff_loadA rfl ty2063 rfl rfl rfl) rfl ?_;refine st rfl rfl (eff_moveg rfl rfl) rfl ?_;refine st rfl rfl (eff_call rfl kB60 rfl (c2060 a2 (a2.Period.fFrom + ((k : Nat) : Int))) (ag_cons rfl (ag_cons rfl ag_nil))) rfl ?_;refine st_nil ?_;refine iw_block ?_;refine iw_rangeC (begL a2 (a2.Period.fFrom + ((k : Nat) : Int))) [(1, .g (G.ref (limG a2))), (2, .g (G.ref [G.lit (.func (.yield l) #[] #[])])), (3, .g (G.int (a2.Period.fFrom + ((k : Nat) : Int)))), (17, .g (G.fn (.func 114) [] [G.ref [G.int (a2.Period.fFrom + ((k : Nat) : Int))], G.ref (limG a2)]))]
   (fun q => wdsL a2 k ++ q) G.int (fun t y => updO (some 4) (.g (G.int y)) (upd 18 (.g (G.int y)) t)) rfl ⟨rfl, rfl, rfl, rfl, trivial⟩ rfl (by rw [List.append_nil]) kB114 rfl rfl (seq_begins a2 _ hst) (fun _ _ _ => rfl) ?_ ?_ ?_ ?_
  ·intro y pre lp C';refine iw_region [.p] ?_;refine st rfl rfl (eff_assigng rfl rfl) rfl ?_;refine st_nil ?_;exact ⟨rfl, rfl, rfl⟩
  ·intro q y post hq lp C';refine iw_block ?_;refine iw_seq ?_;refine iw_regionY [some .p, some .p, none, some .p] ?_;refine ist (st rfl rfl (eff_load rfl kty146 rfl) rfl (st_nil ?_));refine ist (st rfl rfl (eff_moveg rfl rfl) rfl (st_nil ?_));refine iy (post := post ++ post0) y rfl rfl rfl rfl rfl rfl (fun w M ρ v h => h) (by unfold windL; rw [hpost, hq]; simp) fun b => ?_;refine ist (st rfl rfl (eff_not rfl rfl) rfl (st_nil ?_));refine ist_nil ?_;refine iw_cond (!b) rfl (fun h4 => ?_) (fun h4 => ?_)
   ·refine iw_ret ?_;exact h4
   ·have hb : b = true := by simpa using h4
    subst hb;refine iw_skip ?_;show (_, _) = (_, _)
    simp
  ·refine iw_region [.p, .p, .p] ?_;refine st rfl rfl (eff_moveg rfl rfl) rfl ?_;refine st rfl rfl (eff_add rfl rfl rfl (by (try dsimp only); unfold I64; omega)) rfl ?_;refine st rfl rfl (eff_assigng rfl rfl) rfl ?_;refine st_nil ?_;refine ⟨rfl, k + 1, ⟨rfl, rfl, ?_, trivial⟩, rfl, ?_, ?_, ?_⟩
   ·show TV.g (G.int (a2.Period.fFrom + (k : Nat) + 1)) = TV.g (G.int (a2.Period.fFrom + ((k + 1 : Nat) : Int)))
    congr 2; push_cast; omega
   ·show _ = (wdsL a2 (k + 1), false);rw [wds_succ]
   ·show k + 1 ≤ _; omega
   ·show _ - (k + 1) < _; omega
  ·intro pre;exact .inl rfl
 ·replace h2 : (decide (a2.Period.fFrom + ((k : Nat) : Int) ≤ a2.Period.fTo)) = false := h2;replace h2 := decF h2;refine iw_exit ?_;refine .inr ?_;show wdsL a2 k = windL a2;unfold windL;rw [show k = (a2.Period.fTo + 1 - a2.Period.fFrom).toNat by omega]
end Go.Sim
set_option maxRecDepth 10000
namespace Go.Sim
open Go.Proofs
def ofL (a0 : S2062) (ms : List S1079) : List Int := (ms.filter fun m => s2116 a0 m.Kind m.Terminal).map S1079.Moment
theorem kty167 : tyK Tryz.prog 167 = some (2, true) := by kernel_rfl
theorem kz167 : zeroK Tryz.prog 167 = some [.string ⟨#[]⟩, .string ⟨#[]⟩] := by kernel_rfl
theorem ku166 : Tryz.prog.underlying 166 = some (.map 167 4) := by kernel_rfl
theorem kapp122 : appK Tryz.prog 122 = some (3, 1, 8) := by kernel_rfl
theorem ku122 : Tryz.prog.underlying 122 = some (.slice 3) := by kernel_rfl
theorem kzi4 : (Tryz.prog.info? 4).bind (·.zero) = some (.bool false) := by kernel_rfl
def MOk (a0 : S2062) (m : List ((ByteArray × ByteArray) × Bool)) : Prop := ∀ p ∈ m, ok2 p.1 ∧ p.2 = s2116 a0 p.1.1 p.1.2
theorem mget_mem {K V : Type} [DecidableEq K] {k : K} {v : V} : ∀ {m : List (K × V)}, mget m k = some v → (k, v) ∈ m
 | [], h => by cases h
 | (a, b) :: m, h => by
  unfold mget at h
  by_cases e : a = k
  ·rw [decide_eq_true e] at h; cases h; subst e; exact List.mem_cons_self
  ·rw [decide_eq_false e] at h; exact List.mem_cons_of_mem _ (mget_mem h)
theorem mset_mem {K V : Type} [DecidableEq K] {k : K} {v : V} {p : K × V} : ∀ {m : List (K × V)}, p ∈ mset m k v → p ∈ m ∨ p = (k, v)
 | [], h => by simp [mset] at h; exact .inr h
 | (a, b) :: m, h => by
  unfold mset at h
  by_cases e : a = k
  ·rw [decide_eq_true e] at h
   rcases List.mem_cons.1 h with h | h
   ·exact .inr h
   ·exact .inl (List.mem_cons_of_mem _ h)
  ·rw [decide_eq_false e] at h
   rcases List.mem_cons.1 h with h | h
   ·exact .inl (by rw [h]; exact List.mem_cons_self)
   ·rcases mset_mem h with h | h
    ·exact .inl (List.mem_cons_of_mem _ h)
    ·exact .inr h
theorem MOk.set {a0 : S2062} {m : List ((ByteArray × ByteArray) × Bool)} {k : ByteArray × ByteArray} (h : MOk a0 m) (hk : ok2 k) : MOk a0 (mset m k (s2116 a0 k.1 k.2)) := fun p hp => by
 rcases mset_mem hp with hp | rfl
 ·exact h p hp
 ·exact ⟨hk, rfl⟩
theorem agg2 {w : World} {M : Nat → Prop} {ρ : Rho} {p : ByteArray × ByteArray} {u : Value} (h : TRel w M ρ (.g (G.agg [G.str p.1, G.str p.2])) u) : u = kf2 p := by
 obtain ⟨vs, rfl, h⟩ := h
 match vs, h with
 | [a, b], ⟨⟨h1, _⟩, ⟨h2, _⟩, _⟩ =>
  have h1 : a = .string p.1 := h1;have h2 : b = .string p.2 := h2;rw [h1, h2]; rfl
theorem c2061 {g : List (Nat × List Value)} (a0 : S2062) (a1 : List S1079) (hk : (mgetD kindL a0.Kind none).isSome = true) (hsz : ∀ m ∈ a1, m.Kind.size ≤ 1000 ∧ m.Terminal.size ≤ 1000) (hb : a1.length ≤ 1000) :
  Con (EG g) 61 [G.agg (limG a0), G.sl 7 (List.map S1079.c a1)] (G.sl 1 (List.map cInt (ofL a0 a1))) := by
 refine con_of_aw Tryz.func61 rfl rfl fun w0 M0 => ?_;refine aw_seq ?_;refine aw_region [.p, .w] ?_;refine st rfl rfl (eff_box rfl rfl) rfl ?_;refine st_w rfl rfl (eff_nilL 4 3 1 rfl rfl rfl) rfl ?_;refine st_nil ?_;refine aw_seq ?_;refine aw_region [.w] ?_;refine st_w rfl rfl (eff_nilL 5 3 1 rfl rfl rfl) rfl ?_;refine st_nil ?_;refine aw_seq ?_;refine aw_region [.w, .p] ?_;refine st_w rfl rfl (eff_makeMap 6 rfl rfl) rfl ?_;refine st rfl rfl (eff_assignM rfl rfl) rfl ?_;refine st_nil ?_;refine aw_seq ?_;refine aw_seq ?_;refine aw_region [.p, .p, .p] ?_;refine st rfl rfl (eff_moveg rfl rfl) rfl ?_;refine st rfl rfl (eff_lenM (f := S1079.c) (l := a1) rfl Tryz.underlying25 rfl) rfl ?_;refine st rfl rfl (eff_moveg rfl rfl) rfl ?_;refine st_nil ?_;refine aw_block ?_
 refine aw_loop_g (γ := Nat × List S1079 × List Int × List ((ByteArray × ByteArray) × Bool)) (fun g => ([(2, .g (G.ref (limG a0))), (5, .osl 5 1 0 (List.length g.2.2.1)), (6, .omap 6), (13, .g (G.sl 7 (List.map S1079.c a1))), (14, .g (G.int (List.length a1 : Int))), (15, .g (G.int ((g.1 : Nat) : Int)))],
  [(5, .arr 3 1 (List.map cInt g.2.2.1)), (6, mpB kf2 G.bool g.2.2.2)]))
  (fun g => g.2.2.1.length ≤ g.1 ∧ MOk a0 g.2.2.2 ∧ a1.drop g.1 = g.2.1 ∧ g.2.2.1 ++ ofL a0 g.2.1 = ofL a0 a1) (fun g => List.length g.2.1) ⟨rfl, (0, a1, [], []), ⟨rfl, rfl, rfl, rfl, rfl, rfl, trivial⟩, ⟨rfl, rfl, trivial⟩, rfl, ⟨Nat.zero_le _, fun _ h => by (cases h), rfl, rfl⟩, trivial⟩ ?_
 rintro ⟨k, tl, out, mm⟩ ⟨iv, hM, hd, hR⟩;replace iv : out.length ≤ k := iv;replace hM : MOk a0 mm := hM;replace hd : a1.drop k = tl := hd;replace hR : out ++ ofL a0 tl = ofL a0 a1 := hR;have hmk : ∀ p ∈ mm, ok2 p.1 := fun p hp => (hM p hp).1;refine aw_seq ?_;refine aw_region [.p] ?_;refine st rfl rfl (eff_lss rfl rfl rfl) rfl ?_;refine st_nil ?_;refine aw_seq ?_;refine aw_cond _ rfl (fun h1 => ?_) (fun h1 => ?_)
 ·replace h1 : (decide (((k : Nat) : Int) < (List.length a1 : Int))) = true := h1;obtain ⟨y, tl, rfl, hx1, hd⟩ := drop_cons hd (decT h1);replace h1 := decT h1
  have hok : ok2 (y.Kind, y.Terminal) := by
   have hm : y ∈ a1 := List.mem_of_getElem? hx1;exact hsz y hm
  refine aw_skip ?_;refine aw_seq ?_;refine aw_block ?_;refine aw_seq ?_;refine aw_region [.p, .p, .w, .w] ?_;refine st rfl rfl (eff_ix (f := S1079.c) (l := a1) (a := y) rfl Tryz.underlying25 ty1080 rfl rfl (Int.natCast_nonneg _) hx1) rfl ?_;refine st rfl rfl (eff_loadA rfl ty1080 rfl rfl rfl) rfl ?_;refine st_w rfl rfl (eff_alloc 8 rfl z1080 rfl rfl) rfl ?_;refine st_wn rfl rfl (eff_store (tv := .g (G.agg [G.int y.Moment, G.str y.Kind, G.str y.Terminal, G.int y.Seats, G.int y.Size, G.int y.Noise, G.str y.Name])) rfl ty1080 rfl rfl rfl rfl rfl) ?_;refine st_nil ?_;refine aw_freeze (l := [(2, .g (G.ref (limG a0))), (5, .osl 5 1 0 (List.length out)), (6, .omap 6), (8, .g (G.ref [G.int y.Moment, G.str y.Kind, G.str y.Terminal, G.int y.Seats, G.int y.Size, G.int y.Noise, G.str y.Name])), (13, .g (G.sl 7 (List.map S1079.c a1))), (14, .g (G.int (List.length a1 : Int))), (15, .g (G.int ((k : Nat) : Int)))]) (m := [(5, .arr 3 1 (List.map cInt out)), (6, mpB kf2 G.bool mm)]) 8 rfl ⟨.inl ⟨rfl, rfl⟩, .inl ⟨rfl, rfl⟩, .inl ⟨rfl, rfl⟩, .inr (frz_box rfl), .inl ⟨rfl, rfl⟩, .inl ⟨rfl, rfl⟩, .inl ⟨rfl, rfl⟩, trivial⟩ ⟨rfl, rfl, trivial⟩ rfl rfl ?_;refine aw_seq ?_;refine aw_region [.p, .p, .p, .p, .p, .w, .w] ?_;refine st rfl rfl (eff_fieldAddr rfl fl1080_1 rfl) rfl ?_;refine st rfl rfl (eff_load rfl ty9 rfl) rfl ?_;refine st rfl rfl (eff_fieldAddr rfl fl1080_2 rfl) rfl ?_;refine st rfl rfl (eff_load rfl ty9 rfl) rfl ?_;refine st rfl rfl (eff_buildA rfl kz167 rfl u167 ty9 (pb_cons rfl (pb_cons rfl pb_nil)) rfl) rfl ?_;refine st_w rfl rfl (eff_alloc 9 rfl kz167 rfl rfl) rfl ?_;refine st_wn rfl rfl (eff_store (tv := .g (G.agg [G.str y.Kind, G.str y.Terminal])) rfl kty167 rfl rfl rfl rfl rfl) ?_;refine st_nil ?_;refine aw_freeze (l := [(2, .g (G.ref (limG a0))), (5, .osl 5 1 0 (List.length out)), (6, .omap 6), (8, .g (G.ref [G.int y.Moment, G.str y.Kind, G.str y.Terminal, G.int y.Seats, G.int y.Size, G.int y.Noise, G.str y.Name])), (9, .g (G.ref [G.str y.Kind, G.str y.Terminal])), (13, .g (G.sl 7 (List.map S1079.c a1))), (14, .g (G.int (List.length a1 : Int))), (15, .g (G.int ((k : Nat) : Int)))]) (m := [(5, .arr 3 1 (List.map cInt out)), (6, mpB kf2 G.bool mm)]) 9 rfl ⟨.inl ⟨rfl, rfl⟩, .inl ⟨rfl, rfl⟩, .inl ⟨rfl, rfl⟩, .inl ⟨rfl, rfl⟩, .inr (frz_box rfl), .inl ⟨rfl, rfl⟩, .inl ⟨rfl, rfl⟩, .inl ⟨rfl, rfl⟩, trivial⟩ ⟨rfl, rfl, trivial⟩ rfl rfl ?_;refine aw_seq ?_;refine aw_region [.p, .p, .r, .p, .p, .p, .p, .p] ?_;refine st rfl rfl (eff_moveM rfl rfl) rfl ?_;refine st rfl rfl (eff_loadA rfl kty167 rfl rfl rfl) rfl ?_;refine st_r rfl rfl (eff_lookup2K (k := (y.Kind, y.Terminal)) (z := false) ko2 hok hmk rfl ku166 kzi4 (fun _ _ => rfl) rfl (fun _ _ _ _ h => agg2 h) rfl) rfl ?_;refine st rfl rfl (eff_moveg rfl rfl) rfl ?_;refine st rfl rfl (eff_extract rfl rfl rfl) rfl ?_;refine st rfl rfl (eff_extract rfl rfl rfl) rfl ?_;refine st rfl rfl (eff_assigng rfl rfl) rfl ?_;refine st rfl rfl (eff_assigng rfl rfl) rfl ?_;refine st_nil ?_;refine aw_cut_g (γ := List ((ByteArray × ByteArray) × Bool)) (fun mm => ([(2, .g (G.ref (limG a0))), (5, .osl 5 1 0 (List.length out)), (6, .omap 6), (8, .g (G.ref [G.int y.Moment, G.str y.Kind, G.str y.Terminal, G.int y.Seats, G.int y.Size, G.int y.Noise, G.str y.Name])), (10, .g (G.bool (s2116 a0 y.Kind y.Terminal))), (13, .g (G.sl 7 (List.map S1079.c a1))), (14, .g (G.int (List.length a1 : Int))), (15, .g (G.int ((k : Nat) : Int)))], [(5, .arr 3 1 (List.map cInt out)), (6, mpB kf2 G.bool mm)])) (fun mm => MOk a0 mm) ?_ ?_
  ·refine aw_seq ?_;refine aw_region [.p, .p] ?_;refine st rfl rfl (eff_moveg rfl rfl) rfl ?_;refine st rfl rfl (eff_not rfl rfl) rfl ?_;refine st_nil ?_;refine aw_cond _ rfl (fun h2 => ?_) (fun h2 => ?_)
   ·refine aw_seq ?_;refine aw_region [.p, .p, .p, .p, .p, .p, .p] ?_;refine st rfl rfl (eff_loadA rfl ty2063 rfl rfl rfl) rfl ?_;refine st rfl rfl (eff_fieldAddr rfl fl1080_1 rfl) rfl ?_;refine st rfl rfl (eff_load rfl ty9 rfl) rfl ?_;refine st rfl rfl (eff_fieldAddr rfl fl1080_2 rfl) rfl ?_;refine st rfl rfl (eff_load rfl ty9 rfl) rfl ?_;refine st rfl rfl (eff_call rfl K2116 rfl (c2116 a0 y.Kind y.Terminal hk) (ag_cons rfl (ag_cons rfl (ag_cons rfl ag_nil)))) rfl ?_;refine st rfl rfl (eff_assigng rfl rfl) rfl ?_;refine st_nil ?_;refine aw_region [.p, .p, .p, .w] ?_;refine st rfl rfl (eff_moveM rfl rfl) rfl ?_;refine st rfl rfl (eff_loadA rfl kty167 rfl rfl rfl) rfl ?_;refine st rfl rfl (eff_moveg rfl rfl) rfl ?_;refine st_wn rfl rfl (eff_updateK (k := (y.Kind, y.Terminal)) (v := s2116 a0 y.Kind y.Terminal) (ins := false) ko2 hok hmk rfl ku166 rfl (fun _ _ _ _ h => agg2 h) rfl rfl) ?_;refine st_nil ?_;exact ⟨rfl, mset mm (y.Kind, y.Terminal) (s2116 a0 y.Kind y.Terminal), ⟨rfl, rfl, rfl, rfl, rfl, rfl, rfl, rfl, trivial⟩, ⟨rfl, rfl, trivial⟩, rfl, hM.set hok, trivial⟩
   ·have h2 : (!(mhas mm (y.Kind, y.Terminal))) = false := h2
    have hv : mgetD mm (y.Kind, y.Terminal) false = s2116 a0 y.Kind y.Terminal := by
     unfold mhas at h2
     cases hq : mget mm (y.Kind, y.Terminal) with
     | none => rw [hq] at h2; cases h2
     | some v =>
      unfold mgetD;rw [hq];exact (hM _ (mget_mem hq)).2
    refine aw_skip ?_;exact ⟨rfl, mm, ⟨rfl, rfl, rfl, rfl, congrArg (fun b => TV.g (G.bool b)) hv, rfl, rfl, rfl, trivial⟩, ⟨rfl, rfl, trivial⟩, rfl, hM, trivial⟩
  ·intro mm hM;refine aw_seq ?_;refine aw_region [.p] ?_;refine st rfl rfl (eff_moveg rfl rfl) rfl ?_;refine st_nil ?_;refine aw_cond _ rfl (fun h2 => ?_) (fun h2 => ?_)
   ·have h2 : s2116 a0 y.Kind y.Terminal = true := h2
    have hlen : out.length ≤ 1000 := by
     have := (List.getElem?_eq_some_iff.1 hx1).1
     omega
    refine aw_region [.p, .p, .p, .p, .k, .p] ?_;refine st rfl rfl (eff_moveO rfl rfl) rfl ?_;refine st rfl rfl (eff_fieldAddr rfl fl1080_0 rfl) rfl ?_;refine st rfl rfl (eff_load rfl ty3 rfl) rfl ?_;refine st rfl rfl (eff_buildSlice rfl ku122 ty3 z3 rfl (ps_cons rfl ps_nil) rfl (by simp []) (by decide)) rfl ?_;refine st_k rfl rfl (eff_appL (f := cInt) (out := out) (new := [y.Moment]) rfl kapp122 rfl rfl (src_eq rfl (src_sl (by decide) (by simp []))) (refsM rfl) (by simp; omega)) rfl ?_;refine st rfl rfl (eff_assignO rfl rfl) rfl ?_;refine st_nil ?_;refine aw_region [.p, .p] ?_;refine st rfl rfl (eff_add rfl rfl rfl (by unfold I64; omega)) rfl ?_;refine st rfl rfl (eff_moveg rfl rfl) rfl ?_;refine st_nil ?_;refine ⟨rfl, (k + 1, tl, out ++ [y.Moment], mm), ⟨rfl, rfl, rfl, rfl, rfl, rfl, trivial⟩, ⟨rfl, rfl, trivial⟩, rfl, ⟨?_, hM, hd, ?_⟩, by simp⟩
    ·simp; omega
    ·rw [← hR]; simp [ofL, h2]
   ·have h2 : s2116 a0 y.Kind y.Terminal = false := h2;refine aw_skip ?_;refine aw_region [.p, .p] ?_;refine st rfl rfl (eff_add rfl rfl rfl (by unfold I64; omega)) rfl ?_;refine st rfl rfl (eff_moveg rfl rfl) rfl ?_;refine st_nil ?_;refine ⟨rfl, (k + 1, tl, out, mm), ⟨rfl, rfl, rfl, rfl, rfl, rfl, trivial⟩, ⟨rfl, rfl, trivial⟩, rfl, ⟨?_, hM, hd, ?_⟩, by simp⟩
    ·show out.length ≤ k + 1; omega
    ·rw [← hR]; simp [ofL, h2]
 ·replace h1 : (decide (((k : Nat) : Int) < (List.length a1 : Int))) = false := h1;obtain rfl := drop_nil hd (decF h1)
  have hR : out = ofL a0 a1 := by rw [← hR]; simp [ofL]
  refine aw_exit ?_;refine aw_seq ?_;refine aw_region [.p, .p] ?_;refine st rfl rfl (eff_moveO rfl rfl) rfl ?_;refine st rfl rfl (eff_assignO rfl rfl) rfl ?_;refine st_nil ?_;refine aw_ret ?_;rw [← hR];exact res_c rfl (rv_viewL rfl rfl)
end Go.Sim
