/-
  What is proved: lemmas and contracts of functions on the way to the law topChockTotals (part 8).
-/
import Derived.Test.YtfmnmoiaemejjaaGreatVrA7
import Derived.Test.YtfmnmoiaemejjaaGreatVrA3
import Derived.Test.YtfmnmoiaemejjaaGreatVrA6
set_option linter.unusedSectionVars false
set_option linter.unusedSimpArgs false
set_option linter.unusedVariables false
set_option linter.unnecessarySimpa false
set_option linter.deprecated false
set_option maxRecDepth 10000
namespace Go.Sim
section
variable {E : Env} {w0 : World} {M0 : Nat → Prop}
theorem qjt {α : Type} {id : Nat} : ∀ (A B : List (Nat × α)), qr (A ++ B) id = (qr A id).or (qr B id)
 | [], _ => by simp [qr]
 | (k, v) :: r, B => by
  simp only [List.cons_append, qr]
  cases Nat.beq k id with
  | true => rfl
  | false => exact qjt r B
theorem qib {α : Type} {c id : Nat} : ∀ (l : List (Nat × α)), qr (l.filter fun p => !Nat.beq p.1 c) id = if id = c then none else qr l id
 | [] => by simp [qr]
 | (k, v) :: r => by
  have ih := qib (c := c) (id := id) r;simp only [List.filter_cons]
  cases hk : Nat.beq k c with
  | true =>
   have := Nat.eq_of_beq_eq_true hk;subst this;simp only [Bool.not_true, Bool.false_eq_true, if_false, ih, qr]
   by_cases h : id = k
   ·rw [if_pos h, if_pos h]
   ·rw [if_neg h, if_neg h]
    rw [show Nat.beq k id = false from by
     cases hb : Nat.beq k id with
     | true => exact absurd (Nat.eq_of_beq_eq_true hb).symm h
     | false => rfl]
    rfl
  | false =>
   simp only [Bool.not_false, if_true, qr, ih]
   cases hb : Nat.beq k id with
   | true =>
    have := Nat.eq_of_beq_eq_true hb;subst this
    have hkc : k ≠ c := fun e => by subst e; rw [Nat.beq_refl] at hk; cases hk
    simp [hkc]
   | false => rfl
def lsO (o : Option (Nat × Nat)) (id : Nat) : Prop := ∃ kb, o = some (id, kb)
def Env.turnO (E : Env) (lp : Nat) (mem : Mem) (o : Option (Nat × Nat)) (x : Nat → Option Own) : Env := ⟨E.P, E.gl, E.orders, (match o with | none => mem.map fun p => (p.1, x p.1) | some (c, kb) => ((mem.filter fun p => !Nat.beq p.1 c).map fun p => (p.1, x p.1)) ++ [(kb, x c)]), some lp, false, E.nb⟩
theorem qfs {lp id : Nat} {o : Option (Nat × Nat)} {mem : Mem} {x : Nat → Option Own} {y : Option Own} (hok : ∀ c kb, o = some (c, kb) → (∃ b, qr mem kb = some b) ∧ kb ≠ c) : qr (E.turnO lp mem o x).bow id = some y ↔ ¬ lsO o id ∧ (∃ b, qr mem id = some b) ∧ y = x id := by
 cases o with
 | none =>
  have : ¬ lsO none id := fun ⟨_, h⟩ => by cases h
  exact ⟨fun h => ⟨this, (xc x).1 h⟩, fun h => (xc x).2 h.2⟩
 | some q =>
  obtain ⟨c, kb⟩ := q;obtain ⟨hkb, hkc⟩ := hok c kb rfl;have hls : ¬ lsO (some (c, kb)) id ↔ id ≠ c := ⟨fun h e => h ⟨kb, by rw [e]⟩, fun h ⟨_, e⟩ => h (by cases e; rfl)⟩;rw [hls];have e : qr (E.turnO lp mem (some (c, kb)) x).bow id = (qr ((mem.filter fun p => !Nat.beq p.1 c).map fun p => (p.1, x p.1)) id).or (qr [(kb, x c)] id) := qjt _ _;rw [e]
  constructor
  ·intro h
   cases hq : qr ((mem.filter fun p => !Nat.beq p.1 c).map fun p => (p.1, x p.1)) id with
   | some v =>
    rw [hq] at h
    cases h
    obtain ⟨⟨b, h1⟩, h2⟩ := (xc x).1 hq;rw [qib] at h1
    by_cases hc : id = c
    ·rw [if_pos hc] at h1; cases h1
    ·rw [if_neg hc] at h1; exact ⟨hc, ⟨b, h1⟩, h2⟩
   | none =>
    rw [hq] at h
    exfalso
    simp only [qr] at h
    cases hk : Nat.beq kb id with
    | false => rw [hk] at h; cases h
    | true =>
     have := Nat.eq_of_beq_eq_true hk;subst this;obtain ⟨b, hb⟩ := hkb;have : qr ((mem.filter fun p => !Nat.beq p.1 c).map fun p => (p.1, x p.1)) kb = some (x kb) := (xc x).2 ⟨⟨b, by rw [qib, if_neg hkc]; exact hb⟩, rfl⟩;rw [hq] at this; cases this
  ·rintro ⟨h1, ⟨b, h2⟩, rfl⟩;rw [(xc x).2 ⟨⟨b, by rw [qib, if_neg h1]; exact h2⟩, rfl⟩]
   rfl
theorem qm3 {mem : Mem} {ρ : Rho} {W : World} {Mo : Nat → Prop} {x : Nat → Option Own} (lp : Nat) (o : Option (Nat × Nat)) (hMo : ∀ b, Mo b → b < W.heap.size) (hgl : GlOk E W Mo)
  (hdom : ∀ id y, ρ id = some y → ∃ blk, qr mem id = some blk) (hx : ∀ id blk, qr mem id = some blk → ρ id = some (x id)) (hsub : ∀ id ow, ρ id = some (some ow) → Mo ow.b)
  (hinj : ∀ id id' ow ow', ρ id = some (some ow) → ρ id' = some (some ow') → ow.b = ow'.b → id = id') (hblk : ∀ id blk, qr mem id = some blk → BRel W Mo ρ id blk) (hnb : E.nb ≤ W.heap.size)
  (hok : ∀ c kb, o = some (c, kb) → (∃ b, qr mem kb = some b) ∧ kb ≠ c) (hxc : ∀ c ow, x c = some ow → ρ c = some (some ow)) :
  zc (fun b => Mo b ∧ ¬ ∃ id ow, ¬ lsO o id ∧ ρ id = some (some ow) ∧ ow.b = b) ρ = Mo ∧ (∀ b, (E.turnO lp mem o x).lent b ↔ ∃ id ow, ρ id = some (some ow) ∧ ow.b = b) ∧
  MRel (E.turnO lp mem o x) W (fun b => Mo b ∧ ¬ ∃ id ow, ¬ lsO o id ∧ ρ id = some (some ow) ∧ ow.b = b) ρ mem W := by
 have hown : zc (fun b => Mo b ∧ ¬ ∃ id ow, ¬ lsO o id ∧ ρ id = some (some ow) ∧ ow.b = b) ρ = Mo := by
  funext b
  apply propext
  constructor
  ·rintro (h | ⟨id, o, h, rfl⟩)
   ·exact h.1
   ·exact hsub _ _ h
  ·intro h
   by_cases hb : ∃ id ow, ¬ lsO o id ∧ ρ id = some (some ow) ∧ ow.b = b
   ·obtain ⟨id, ow, _, h1, h2⟩ := hb; exact .inr ⟨id, ow, h1, h2⟩
   ·exact .inl ⟨h, hb⟩
 have hlent : ∀ b, (E.turnO lp mem o x).lent b ↔ ∃ id ow, ρ id = some (some ow) ∧ ow.b = b := by
  have hin : ∀ id ow, ρ id = some (some ow) → (∃ blk, qr mem id = some blk) ∧ x id = some ow := fun id ow h1 => by
   obtain ⟨blk, hb⟩ := hdom id _ h1;have h3 := hx id blk hb;rw [h1] at h3;exact ⟨⟨blk, hb⟩, by simpa using h3.symm⟩
  have hout : ∀ id ow, (id, some ow) ∈ (mem.map fun p => (p.1, x p.1)) → ρ id = some (some ow) := fun id ow h => by
   obtain ⟨⟨b', h4⟩, h5⟩ := (xc x).1 (qn5 h);rw [h5]; exact hx id b' h4
  intro b
  constructor
  ·rintro ⟨id, ow, h1, h2⟩
   cases o with
   | none => exact ⟨id, ow, hout id ow h1, h2⟩
   | some q =>
    obtain ⟨c, kb⟩ := q
    rcases List.mem_append.1 h1 with h1 | h1
    ·obtain ⟨z, hz, e⟩ := List.mem_map.1 h1;exact ⟨id, ow, hout id ow (List.mem_map.2 ⟨z, (List.mem_filter.1 hz).1, e⟩), h2⟩
    ·have h1 := List.mem_singleton.1 h1;simp only [Prod.mk.injEq] at h1;exact ⟨c, ow, hxc c ow h1.2.symm, h2⟩
  ·rintro ⟨id, ow, h1, h2⟩;obtain ⟨hb, h3⟩ := hin id ow h1
   by_cases hc : lsO o id
   ·obtain ⟨kb, rfl⟩ := hc;exact ⟨kb, ow, List.mem_append.2 (.inr (by rw [h3]; exact List.mem_cons_self)), h2⟩
   ·exact ⟨id, ow, jk _ ((qfs hok).2 ⟨hc, hb, h3.symm⟩), h2⟩
 have hkeep : ∀ id y, qr (E.turnO lp mem o x).bow id = some y → ¬ lsO o id ∧ ρ id = some y := fun id y h => by
  obtain ⟨h1, ⟨b, h2⟩, rfl⟩ := (qfs hok).1 h;exact ⟨h1, hx id b h2⟩
 refine ⟨hown, hlent, BelowX.refl _ W, fun b h => hMo b h.1, by rw [hown]; exact hgl, hdom, fun id ow ho => ⟨.inr ((hlent _).2 ⟨id, ow, ho, rfl⟩), hMo _ (hsub _ _ ho)⟩, hinj, fun id y h => (hkeep id y h).2, ⟨?_, hnb⟩, by rw [hown]; exact hblk⟩;rintro b ⟨id, ow, h1, h2⟩ hM;obtain ⟨h3, h4⟩ := hkeep id _ h1;exact hM.2 ⟨id, ow, h3, h4, h2⟩
theorem BRel.clo {w : World} {M M' : Nat → Prop} {ρ ρ' : Rho} {m : Mem} {id : Nat} {blk : Blk} (hi : (qr m id).isSome = true) (hc : qns m blk = true) (h : BRel w M ρ id blk) (hM : ∀ b, M' b → M b) (hρ : ∀ id, (qr m id).isSome = true → ρ' id = ρ id) : BRel w M' ρ' id blk := by
 cases blk with
 | box cs =>
  obtain ⟨ow, e, vs, g1, g2, g3, g4⟩ := h;exact ⟨ow, e, vs, by rw [hρ id hi]; exact g1, g2, g3, g4.sub hM hρ (by simpa [qns] using hc)⟩
 | arr e k xs =>
  rcases h with ⟨g1, g2⟩ | ⟨ow, vs, g1, g2, g3, g4, g5, g6, g7⟩
  ·exact .inl ⟨by rw [hρ id hi]; exact g1, g2⟩
  ·exact .inr ⟨ow, vs, by rw [hρ id hi]; exact g1, g2, g3, g4, g5, g6, g7.mono (fun _ _ _ => rfl) (fun b _ => hM b)⟩
 | mp es =>
  obtain ⟨ow, en, cl, g1, g2, g3, g4⟩ := h;exact ⟨ow, en, cl, by rw [hρ id hi]; exact g1, g2, g3.mono (fun _ _ _ => rfl) (fun b _ => hM b), g4⟩
 | obj o =>
  obtain ⟨ow, g1, g2, g3⟩ := h;exact ⟨ow, by rw [hρ id hi]; exact g1, g2, g3⟩
 | mit es seen =>
  obtain ⟨ow, g1, g2, g3⟩ := h;exact ⟨ow, by rw [hρ id hi]; exact g1, g2, g3.mono rfl (fun _ _ _ => rfl) (fun b _ => hM b)⟩
 | gone => trivial
def JmL (ρ0 : Rho) (Mo N Y : Nat → Prop) (o : Option (Nat × Nat)) (lp D : Nat) (w : World) (st : Obj) (m : Mem) (W : World) : Prop :=
 BelowX (fun b => b = lp ∨ ∃ id ow, ρ0 id = some (some ow) ∧ ow.b = b) w W ∧ W.heap[lp]? = some st ∧ W.heap[D]? = some (.deferred (some [])) ∧ (∀ b, N b → w.heap.size ≤ b) ∧ (∀ b, Y b → w.heap.size ≤ b ∧ b < W.heap.size) ∧
 ∃ ρ : Rho, (∀ id, ¬ lsO o id → ρ id = ρ0 id) ∧ (∀ id y, ρ id = some y → ∃ blk, qr m id = some blk) ∧ (∀ id id' ow ow', ρ id = some (some ow) → ρ id' = some (some ow') → ow.b = ow'.b → id = id') ∧
  (∀ id ow, ρ id = some (some ow) → (∃ id0 ow0, ρ0 id0 = some (some ow0) ∧ ow0.b = ow.b) ∨ Y ow.b) ∧ ∀ id blk, qr m id = some blk → BRel W (fun b => (Mo b ∨ N b) ∨ Y b) ρ id blk
theorem JmL.turn {ρ0 : Rho} {Mo N Y : Nat → Prop} {o : Option (Nat × Nat)} {lp D : Nat} {w W W' : World} {st : Obj} {m : Mem} (hsub : ∀ id ow, ρ0 id = some (some ow) → ow.b < w.heap.size) (hlp : lp < w.heap.size ∧ D < w.heap.size) (h : JmL ρ0 Mo N Y o lp D w st m W) (hd : ∀ b, Y b → ¬ N b) (hB : BelowX N W W') : JmL ρ0 Mo N Y o lp D w st m W' := by
 obtain ⟨h1, h3, h4, h5, h6, ρ, r1, r2, r3, r4, r5⟩ := h;refine ⟨⟨hB.os.trans h1.os, hB.tape.trans h1.tape, hB.output.trans h1.output, Nat.le_trans h1.size hB.size, fun k hk hl => ?_⟩, ?_, ?_, h5, fun b hb => ⟨(h6 b hb).1, Nat.lt_of_lt_of_le (h6 b hb).2 hB.size⟩, ρ, r1, r2, r3, r4, fun id blk hb => ?_⟩
 ·exact (hB.block k (Nat.lt_of_lt_of_le hk h1.size) (fun h => by have := h5 k h; omega)).trans (h1.block k hk hl)
 ·exact (hB.block lp (Array.getElem?_eq_some_iff.1 h3).1 (fun h => by have := h5 _ h; omega)).trans h3
 ·exact (hB.block D (Array.getElem?_eq_some_iff.1 h4).1 (fun h => by have := h5 _ h; omega)).trans h4
 ·refine (r5 id blk hb).mono none (by simp) (z8 _) (fun ow ho => ?_) (fun b hb hno => hB.block b hb fun h => hno (.inl (.inr h))) (fun _ _ h => h) (fun _ _ _ => U)
  rcases r4 id ow ho with ⟨i0, o0, q1, q2⟩ | q
  ·have := hsub i0 o0 q1
   exact hB.block _ (by have := h1.size; omega) fun h => by have := h5 _ h; omega
  ·exact hB.block _ (h6 _ q).2 (hd _ q)
theorem JmL.take {ρ0 : Rho} {Mo N N' Y : Nat → Prop} {o : Option (Nat × Nat)} {lp D : Nat} {w W : World} {st : Obj} {m : Mem} (hN : ∀ b, N' b → N b ∨ W.heap.size ≤ b) (h : JmL ρ0 Mo N Y o lp D w st m W) : JmL ρ0 Mo N' Y o lp D w st m W := by
 obtain ⟨h1, h3, h4, h5, h6, ρ, r1, r2, r3, r4, r5⟩ := h;refine ⟨h1, h3, h4, fun b hb => ?_, h6, ρ, r1, r2, r3, r4, fun id blk hb => ?_⟩
 ·rcases hN b hb with h | h
  ·exact h5 b h
  ·exact Nat.le_trans h1.size h
 ·exact (r5 id blk hb).mono none (by simp) (z8 _) (fun _ _ => U) (fun _ _ _ => U) (fun b hb h => h.imp (Or.imp (fun h => h) fun h => (hN b h).resolve_right (by omega)) (fun h => h)) (fun _ _ _ => U)
def qda (m : Mem) : Bool := m.all (fun q => q.2.live) && m.all (fun q => qns m q.2)
def q8l {α γ : Type} (m : γ → Mem) (I : List α → γ → Prop) (Px : Code → List α → Mem → Prop) (m0 : Mem) (pre : List α) : Exit → ASt → Prop
 | .normal, s => ∃ g, I pre g ∧ MemL s (m g)
 | .ret, s => ∃ mx, Px .ret pre mx ∧ qby m0 mx ∧ qda mx = true ∧ MemL s mx
 | .exit id, s => ∃ mx, Px (.exit id) pre mx ∧ qby m0 mx ∧ qda mx = true ∧ MemL s mx
 | _, _ => False
theorem qic {α γ : Type} {gop : Operand} {p : Tmp} {assign body : Code} {Q : Exit → ASt → Prop} {n : Nat} {t : Nat → TV} {gf : FuncId} {caps : List G} {enc : α → Value} {xs : List α}
  (o : Option (Nat × Nat)) (m : γ → Mem) (I : List α → γ → Prop) (g0 : γ) (S1 : γ → α → ASt) (Px : Code → List α → Mem → Prop)
  (hmk : E.mks = true) (hrn : E.rnd = none) (hk : zf E.P gf) (hp : p < n)
  (hg : ASt.eval E ⟨n, t, m g0⟩ gop = .g (.fn (.func gf) [] caps)) (hseq : SeqN E gf caps enc xs) (gx : α → G) (hgx : ∀ x w M, (gx x).p w M (enc x))
  (hg0 : I [] g0) (hids : ∀ g, qby (m g0) (m g)) (hgood : ∀ g, qda (m g) = true)
  (hassign : ∀ pre x post g, xs = pre ++ x :: post → I pre g → ∀ lp w1 M1 x1, AWp (E.turnO lp (m g) o x1) w1 M1 assign (fun e s' => e = .normal ∧ s' = S1 g x) ⟨n, upd p (.g (gx x)) t, m g⟩)
  (hlive1 : ∀ g x, q4o (S1 g x).mem = true)
  (hbody : ∀ pre x post g, xs = pre ++ x :: post → I pre g → ∀ lp w1 M1 x1, AWp (E.turnO lp (S1 g x).mem o x1) w1 M1 body (q8l m I Px (m g0) (pre ++ [x])) (S1 g x))
  (hkb : ∀ g c kb, o = some (c, kb) → (∃ b, qr (m g) kb = some b) ∧ kb ≠ c) (hkb1 : ∀ g x c kb, o = some (c, kb) → (∃ b, qr (S1 g x).mem kb = some b) ∧ kb ≠ c) (hbc : ∀ id, lsO o id → qr E.bow id = none) (htc : ∀ i, noref (o.map (·.1)) (t i) = true)
  (hdone : ∀ g, I xs g → Q .normal ⟨n, t, m g⟩)
  (hstop : ∀ co pre mx, Px co pre mx → AWp E w0 M0 co Q ⟨n, t, mx⟩) : AWp E w0 M0 (.rangeFunc gop #[p] assign body) Q ⟨n, t, m g0⟩ := by
 intro a w ha;obtain ⟨ρ, hm, hmks, ht⟩ := ha.ex
 have hF : E.F = Fence.wide := by unfold Env.F; rw [hrn]; rfl
 obtain ⟨fs, cs, hge, hfs, hcs⟩ : (G.fn (.func gf) [] caps).p w (zc M0 ρ) (a.eval gop) := by
  have := qj5 hm ht gop;rw [hg] at this;exact this
 obtain rfl : fs = [] := by cases fs with
  | nil => rfl
  | cons => exact hfs.elim
 obtain ⟨fng, k1, k2, k3⟩ := hk;refine wpIn_rangeFunc ?_;intro fn _;obtain ⟨rec, hrec⟩ : ∃ rec : LoopState → Option Code → Loop, rec = fun st pe => { state := st, pending := pe, fn, tmps := a.tmps, params := #[p], assign, body, defers := w.heap.size } := ⟨_, rfl⟩;obtain ⟨w2, hw2⟩ : ∃ w2, (w.alloc (.deferred (some []))).alloc (.loop (rec .ready none)) = w2 := ⟨_, rfl⟩
 have hgr : Grow w w2 := by rw [← hw2]; exact (Grow.alloc w _).trans (Grow.alloc _ _)
 have hsz : w2.heap.size = w.heap.size + 2 := by rw [← hw2]; simp
 have hL : w2.heap[w.heap.size + 1]? = some (.loop (rec .ready none)) := by
  rw [← hw2]; have := World.alloc_heap_new (w.alloc (.deferred (some []))) (.loop (rec .ready none)); rwa [World.size_alloc] at this
 have hD : w2.heap[w.heap.size]? = some (.deferred (some [])) := by
  rw [← hw2]; exact (RowKit.Below.heap_alloc _ _ _ (by simp)).trans (World.alloc_heap_new w _)
 have hρlt : ∀ id ow, ρ id = some (some ow) → ow.b < w.heap.size := fun id ow h => (hm.fresh id ow h).2
 have hrun : (Instr.enterLoop fn a.tmps #[p] assign body E.F.round).run E.P w = .ok (w.heap.size + 1, [{ target := .collected w.heap.size, args := #[] }]) w2 := by
  rw [← hw2, hrec, hF]; exact run_enterLoop_outer _ _ _ _ _
 clear hw2;generalize hDD : w.heap.size = D at *;generalize hlpp : D + 1 = lp at *
 let Mo : Nat → Prop := fun b => zc M0 ρ b ∨ b = D ∨ b = lp
 let L : Nat → Prop := fun b => b = lp ∨ ∃ id ow, ρ id = some (some ow) ∧ ow.b = b
 have hLMo : ∀ b, L b → Mo b := by
  rintro b (h | ⟨id, ow, h, rfl⟩)
  ·exact .inr (.inr h)
  ·exact .inl (.inr ⟨id, ow, h, U⟩)
 have hsubMo : ∀ id ow, ρ id = some (some ow) → Mo ow.b := fun id ow h => .inl (.inr ⟨id, ow, h, rfl⟩)
 have hMow : ∀ b, Mo b → b < w2.heap.size := by
  rintro b (h | h | h)
  ·have := hm.lt b h; omega
  ·omega
  ·omega
 have hMoSub : ∀ b, b < w.heap.size → Mo b → zc M0 ρ b := by
  rintro b hb (h | h | h)
  ·exact h
  ·omega
  ·omega
 have hgl2 : GlOk E w2 Mo := fun g vs hgv => by
  obtain ⟨⟨g1, g2⟩, g3⟩ := hm.glob g vs hgv;refine ⟨⟨?_, by omega⟩, g3.mono hgr.hh hMoSub g1⟩;rintro (h | h | h)
  ·exact g1 h
  ·omega
  ·omega
 have hdom : ∀ gg id y, ρ id = some y → ∃ blk, qr (m gg) id = some blk := fun gg id y h => by
  rw [qkf, hids gg, ← qkf]; exact hm.dom id y h
 have hhW : ∀ W, BelowX L w2 W → ∀ b, b < w2.heap.size → ¬ Mo b → W.heap[b]? = w2.heap[b]? := fun W h b hb hno => h.block b hb fun hl => hno (hLMo b hl)
 have hYsub : ∀ (N Y : Nat → Prop), (∀ b, N b → w2.heap.size ≤ b) → (∀ b, Y b → w2.heap.size ≤ b) → ∀ b, b < w2.heap.size → ((Mo b ∨ N b) ∨ Y b) → Mo b := by
  rintro N Y hN hY b hb ((h | h) | h)
  ·exact h
  ·have := hN b h; omega
  ·have := hY b h; omega
 have hglN : ∀ W (N Y : Nat → Prop), BelowX L w2 W → (∀ b, N b → w2.heap.size ≤ b) → (∀ b, Y b → w2.heap.size ≤ b) → GlOk E W (fun b => (Mo b ∨ N b) ∨ Y b) := fun W N Y h hN hY g vs hgv => by
  obtain ⟨⟨g1, g2⟩, g3⟩ := hgl2 g vs hgv;have hs := hYsub N Y hN hY;exact ⟨⟨fun k => g1 (hs g g2 k), by have := h.size; omega⟩, g3.mono (fun b hb hno => hhW W h b hb hno) hs g1⟩
 have hρk : ∀ (ρ1 : Rho), (∀ id, ¬ lsO o id → ρ1 id = ρ id) → ∀ id, some id ≠ o.map (·.1) → ρ id ≠ none → ρ1 id = ρ id := fun ρ1 h id hi _ => h id fun ⟨_, e⟩ => hi (by rw [e]; rfl)
 have htWN : ∀ W (N Y : Nat → Prop) (ρ1 : Rho), BelowX L w2 W → (∀ b, N b → w2.heap.size ≤ b) → (∀ b, Y b → w2.heap.size ≤ b) → (∀ id, ¬ lsO o id → ρ1 id = ρ id) → ∀ i, TRel W (fun b => (Mo b ∨ N b) ∨ Y b) ρ1 (t i) (a.tmps.getD i undef) := fun W N Y ρ1 h hN hY hρ1 i =>
  (((ht i).mono none (by cases ASt.get ⟨n, t, m g0⟩ i <;> rfl) hgr.hh hMoSub (fun _ _ _ => rfl) : TRel w2 Mo ρ (t i) (a.tmps.getD i undef))).mono (o.map (·.1)) (htc i) (hhW W h) (hYsub N Y hN hY) (hρk ρ1 hρ1)
 -- behind the loop
 have back : ∀ mx W' st pe N Y, qby (m g0) mx → JmL ρ Mo N Y o lp D w2 (.loop (rec st pe)) mx W' →
   ARel E w0 M0 ⟨n, t, mx⟩ { a with defers := { target := .collected D, args := #[] } :: a.defers } (W'.putObj lp (.loop { rec st pe with state := .exhausted })) := by
  rintro mx W' st pe N Y hs ⟨j1, j3, j4, j5, j6, ρ1, r1, r2, r3, r4, r5⟩;have hfull : BelowX L w2 (W'.putObj lp (.loop { rec st pe with state := .exhausted })) := j1.trans (wm _ _ _ (.inl rfl))
  have hhw : ∀ b, b < w.heap.size → ¬ zc M0 ρ b → (W'.putObj lp (.loop { rec st pe with state := .exhausted })).heap[b]? = w.heap[b]? := fun b hb hno =>
   (hhW _ hfull b (by omega) fun h => hno (hMoSub b hb h)).trans (hgr.block b hb)
  have hsize : w.heap.size ≤ (W'.putObj lp (.loop { rec st pe with state := .exhausted })).heap.size := by have := hfull.size; omega
  have hsub1 : ∀ b, b < w.heap.size → zc M0 ρ1 b → zc M0 ρ b := by
   rintro b hb (h | ⟨id, ow, h, rfl⟩)
   ·exact .inl h
   ·rcases r4 id ow h with ⟨i0, o0, q1, q2⟩ | q
    ·exact .inr ⟨i0, o0, q1, q2⟩
    ·have := (j6 _ q).1; omega
  have hown1 : ∀ id ow, ρ1 id = some (some ow) → (w0.heap.size ≤ ow.b ∨ E.lent ow.b) ∧ ow.b < W'.heap.size ∧ ow.b ≠ lp := fun id ow h => by
   rcases r4 id ow h with ⟨i0, o0, q1, q2⟩ | q
   ·rw [← q2];have := hρlt i0 o0 q1;have := j1.size;exact ⟨(hm.fresh i0 o0 q1).1, by omega, by omega⟩
   ·have h6 := j6 _ q;have := hm.below.size;exact ⟨.inl (by omega), h6.2, by omega⟩
  refine ⟨(fun h => by rw [hmk] at h; cases h), ha.size, ρ1, ⟨?_, hm.m0, ?_, ?_, ?_, r3, ?_, hm.lentM, ?_⟩, ?_, fun i => ?_⟩
  ·refine ⟨hfull.os.trans (hgr.os.trans hm.below.os), hfull.tape.trans (hgr.tape.trans hm.below.tape), hfull.output.trans (hgr.output.trans hm.below.output), Nat.le_trans hm.below.size hsize, fun k hk' hl => ?_⟩;have hkw := Nat.lt_of_lt_of_le hk' hm.below.size;refine (hfull.block k (by omega) ?_).trans ((hgr.block k hkw).trans (hm.below.block k hk' hl));rintro (h | ⟨id, ow, h, rfl⟩)
   ·omega
   ·rcases (hm.fresh id ow h).1 with g | g
    ·omega
    ·exact hl g
  ·intro g vs hgv;obtain ⟨⟨g1, g2⟩, g3⟩ := hm.glob g vs hgv;exact ⟨⟨fun k => g1 (hsub1 g g2 k), by omega⟩, g3.mono hhw hsub1 g1⟩
  ·exact r2
  ·exact fun id ow h => ⟨(hown1 id ow h).1, by rw [vx]; exact (hown1 id ow h).2.1⟩
  ·intro id x h
   have hne : ¬ lsO o id := fun e => by rw [hbc id e] at h; cases h
   rw [r1 id hne]; exact hm.keep id x h
  ·intro id blk hb;refine (r5 id blk hb).mono none (by simp) (z8 _) (fun ow ho => World.putObj_heap_other (hown1 id ow ho).2.2) (fun b _ hno => World.putObj_heap_other ?_) (fun b _ h => ?_) (fun _ _ _ => U)
   ·intro e; exact hno (.inl (.inl (.inr (.inr e))))
   ·rcases h with h | ⟨id2, ow2, h, rfl⟩
    ·exact .inl (.inl (.inl (.inl h)))
    ·rcases r4 id2 ow2 h with ⟨i0, o0, q1, q2⟩ | q
     ·exact .inl (.inl (.inl (.inr ⟨i0, o0, q1, q2⟩)))
     ·exact .inr q
  ·refine ⟨List.nodup_cons.2 ⟨fun hd => ?_, hmks.1⟩, fun d hd => ?_⟩
   ·obtain ⟨D', q1, q2, q3⟩ := hmks.2 _ hd;have hq := (Array.getElem?_eq_some_iff.1 q3.2).1;simp only [Deferred.mk.injEq, Target.collected.injEq, and_true] at q1
    omega
   rcases List.mem_cons.1 hd with rfl | hd
   ·refine ⟨D, U, by have := hm.below.size; omega, ?_, (World.putObj_heap_other (by omega)).trans j4⟩;rintro (h | ⟨id, ow, h, e⟩)
    ·have := hm.m0 D h; have := hm.below.size; omega
    ·rcases r4 id ow h with ⟨i0, o0, q1, q2⟩ | q
     ·have := hρlt i0 o0 q1; omega
     ·have := (j6 _ q).1; omega
   ·obtain ⟨D', q1, q2, q3⟩ := hmks.2 d hd;exact ⟨D', q1, q2, (G.mark D').mono q3 hhw hsub1⟩
  ·exact (ht i).mono (o.map (·.1)) (htc i) hhw hsub1 (hρk ρ1 r1)
 refine ⟨lp, [{ target := .collected D, args := #[] }], w2, { target := .fn (.func gf) cs.toArray, args := #[.func (.yield lp) #[] #[]] }, w2, gf,
  #[.func (.yield lp) #[] #[]] ++ cs.toArray, w2, hrun, ?_, fun _ _ => trivial, ?_, qj8, ?_⟩
 ·simp only [resolve, hge]
  simp [go_sem]
 ·simp [invoke, go_sem, kp k1 k2 k3]
 rw [hF]
 refine (hseq w2 Mo cs lp (fun N pre st W => (st = false → ∃ gg, I pre gg ∧ JmL ρ Mo N.n N.y o lp D w2 (.loop (rec .ready none)) (m gg) W) ∧
  (st = true → ∃ co mx, Px co pre mx ∧ qby (m g0) mx ∧ JmL ρ Mo N.n N.y o lp D w2 (.loop (rec .done (some co))) mx W)) hMow hgl2 (hcs.mono hgr.hh hMoSub) ?_ ?_ ?_ ?_).mono ?_
 ·rintro N pre st W W' ⟨h1, h2⟩ hd hB;exact ⟨fun h => by obtain ⟨gg, hI, hj⟩ := h1 h; exact ⟨gg, hI, hj.turn (fun id ow ho => by have := hρlt id ow ho; omega) ⟨by omega, by omega⟩ hd hB⟩, fun h => by obtain ⟨co, mx, q1, q2, hj⟩ := h2 h; exact ⟨co, mx, q1, q2, hj.turn (fun id ow ho => by have := hρlt id ow ho; omega) ⟨by omega, by omega⟩ hd hB⟩⟩
 ·rintro N N' pre st W ⟨h1, h2⟩ hN;exact ⟨fun h => by obtain ⟨gg, hI, hj⟩ := h1 h; exact ⟨gg, hI, hj.take hN⟩, fun h => by obtain ⟨co, mx, q1, q2, hj⟩ := h2 h; exact ⟨co, mx, q1, q2, hj.take hN⟩⟩
 ·-- ONE ROUND
  rintro ⟨N, Y⟩ pre x post W1 hxs _ hN _ ⟨hst, _⟩;obtain ⟨gg, hI, j1, j3, j4, j5, j6, ρ1, r1, r2, r3, r4, r5⟩ := hst rfl;have hN : ∀ b, N b → w2.heap.size ≤ b ∧ b < W1.heap.size := hN;have j5 : ∀ b, N b → w2.heap.size ≤ b := j5;have j6 : ∀ b, Y b → w2.heap.size ≤ b ∧ b < W1.heap.size := j6;have j6' : ∀ b, Y b → w2.heap.size ≤ b := fun b h => (j6 b h).1;have r4 : ∀ id ow, ρ1 id = some (some ow) → (∃ id0 ow0, ρ id0 = some (some ow0) ∧ ow0.b = ow.b) ∨ Y ow.b := r4;have r5 : ∀ id blk, qr (m gg) id = some blk → BRel W1 (fun b => (Mo b ∨ N b) ∨ Y b) ρ1 id blk := r5;have hlpW1 : lp < W1.heap.size := (Array.getElem?_eq_some_iff.1 j3).1;have hy := run_yield (P := E.P) (args := #[enc x]) j3 (by rw [hrec]; rfl);refine ⟨_, _, _, _, hy, roundIn_of_wpIn O ?_⟩;clear hy
  have hfold : (((rec .ready none).params.zip #[enc x]).foldl (fun tmps (t, a) => tmps.setIfInBounds t a) (rec .ready none).tmps) = (a.put (some p) (enc x)).tmps := by rw [hrec]; simp [Act.put]
  have has : (rec .ready none).assign = assign := by rw [hrec]
  have hbo : (rec .ready none).body = body := by rw [hrec]
  rw [hfold, has, hbo]
  have hnbW : E.nb ≤ W1.heap.size := by have h1 := hm.lentM.2; have h2 := hm.below.size; have h3 := hgr.size; have h4 := j1.size; omega
  have hsubm : ∀ id ow, ρ1 id = some (some ow) → (fun b => (Mo b ∨ N b) ∨ Y b) ow.b := fun id ow h => by
   rcases r4 id ow h with ⟨i0, o0, q1, q2⟩ | q
   ·exact .inl (.inl (q2 ▸ hsubMo i0 o0 q1))
   ·exact .inr q
  have hx1 : ∀ id blk, qr (m gg) id = some blk → ρ1 id = some ((ρ1 id).getD none) := fun id blk h => by
   have h1 := hgood gg;simp only [qda, Bool.and_eq_true] at h1;obtain ⟨y, hy⟩ := (r5 id blk h).has (List.all_eq_true.1 h1.1 _ (jk _ h));rw [hy]; rfl
  have hxc1 : ∀ (ρ' : Rho) c ow, (ρ' c).getD none = some ow → ρ' c = some (some ow) := fun ρ' c ow h => by
   cases hq : ρ' c with
   | none => rw [hq] at h; cases h
   | some z => rw [hq] at h; simp only [Option.getD_some] at h; rw [h]
  have hlow : ∀ id ow, ρ1 id = some (some ow) → ow.b ≠ lp ∧ ow.b ≠ D := fun id ow h => by
   rcases r4 id ow h with ⟨i0, o0, q1, q2⟩ | q
   ·have := hρlt i0 o0 q1; omega
   ·have := j6' _ q; omega
  obtain ⟨o1, l1, mr1⟩ := qm3 (E := E) (x := fun id => (ρ1 id).getD none) lp o (mem := m gg) (W := W1) (Mo := fun b => (Mo b ∨ N b) ∨ Y b) (fun b h => h.elim (fun h => h.elim (fun h => Nat.lt_of_lt_of_le (hMow b h) j1.size) (fun h => (hN b h).2)) (fun h => (j6 b h).2)) (hglN W1 N Y j1 j5 j6') r2 hx1 hsubm r3 r5 hnbW (hkb gg) (hxc1 ρ1);generalize hM1 : (fun b => ((Mo b ∨ N b) ∨ Y b) ∧ ¬ ∃ id ow, ¬ lsO o id ∧ ρ1 id = some (some ow) ∧ ow.b = b) = M1 at *
  have ha1 : ARel (E.turnO lp (m gg) o fun id => (ρ1 id).getD none) W1 M1 ⟨n, upd p (.g (gx x)) t, m gg⟩ { tmps := (a.put (some p) (enc x)).tmps, defers := [] } W1 := by
   refine ⟨fun _ => U, by rw [qj7]; exact ha.size, ρ1, mr1, Marks.nil, fun i => ?_⟩;rw [o1];show TRel W1 (fun b => (Mo b ∨ N b) ∨ Y b) ρ1 (upd p (.g (gx x)) t i) ((a.put (some p) (enc x)).tmps.getD i undef);rw [qj6 a (some p) (enc x) (fun d h => by cases h; rw [ha.size]; exact hp), qvr]
   by_cases hpi : p = i
   ·rw [if_pos hpi, if_pos (by rw [hpi])]; exact hgx x _ _
   ·rw [if_neg hpi, if_neg (fun h => hpi (by cases h; rfl))]; exact htWN W1 N Y ρ1 j1 j5 j6' r1 i
  refine wpIn_mono (hassign pre x post gg hxs hI lp W1 M1 _ _ W1 ha1) ?_;rintro e a1 W2 ⟨s', ha2, rfl, rfl⟩;obtain ⟨ρ2, hm2, _, ht2⟩ := ha2.ex
  have hnl : ¬ (E.turnO lp (m gg) o fun id => (ρ1 id).getD none).lent lp := fun h => by obtain ⟨id, ow, h1, h2⟩ := (l1 _).1 h; exact (hlow id ow h1).1 h2
  have hnD : ¬ (E.turnO lp (m gg) o fun id => (ρ1 id).getD none).lent D := fun h => by obtain ⟨id, ow, h1, h2⟩ := (l1 _).1 h; exact (hlow id ow h1).2 h2
  have e3 : W2.heap[lp]? = some (.loop (rec .ready none)) := (hm2.below.block lp hlpW1 hnl).trans j3;have e4 : W2.heap[D]? = some (.deferred (some [])) := (hm2.below.block D (by omega) hnD).trans j4;refine ⟨_, run_beginRound e3 (by rw [hrec]), ?_⟩;have hlpW2 : lp < W2.heap.size := Nat.lt_of_lt_of_le hlpW1 hm2.below.size;have hρ2 : ∀ id y, ¬ lsO o id → ρ1 id = some y → ρ2 id = some y := fun id y hi h => hm2.keep id y ((qfs (hkb gg)).2 ⟨hi, r2 id y h, by simp only [h, Option.getD_some]⟩)
  have hne2 : ∀ id ow, ρ2 id = some (some ow) → ow.b ≠ lp := fun id ow h e => by
   rcases (hm2.fresh id ow h).1 with g | g
   ·omega
   ·exact hnl (e ▸ g)
  have hne2D : ∀ id ow, ρ2 id = some (some ow) → ow.b ≠ D := fun id ow h e => by
   rcases (hm2.fresh id ow h).1 with g | g
   ·omega
   ·exact hnD (e ▸ g)
  have hMM : ∀ b, ((Mo b ∨ N b) ∨ Y b) → zc M1 ρ2 b := fun b h => by
   by_cases hs : ∃ id ow, ¬ lsO o id ∧ ρ1 id = some (some ow) ∧ ow.b = b
   ·obtain ⟨id, ow, h1, h2, h3⟩ := hs;exact .inr ⟨id, ow, hρ2 id _ h1 h2, h3⟩
   ·exact .inl (by rw [← hM1]; exact ⟨h, hs⟩)
  have hh2 : ∀ b, b < W2.heap.size → ¬ zc M1 ρ2 b → (W2.putObj lp (.loop { rec .ready none with state := .busy })).heap[b]? = W2.heap[b]? := fun b _ hno =>
   World.putObj_heap_other fun e => hno (by rw [e]; exact hMM lp (.inl (.inl (.inr (.inr rfl)))))
  have hx2 : ∀ id blk, qr (S1 gg x).mem id = some blk → ρ2 id = some ((ρ2 id).getD none) := fun id blk h => by
   obtain ⟨y, hy⟩ := (hm2.blk id blk h).has (List.all_eq_true.1 (hlive1 gg x) _ (jk _ h));rw [hy]; rfl
  obtain ⟨o2, l2, mr2⟩ := qm3 (E := E) (x := fun id => (ρ2 id).getD none) lp o (mem := (S1 gg x).mem) (W := W2.putObj lp (.loop { rec .ready none with state := .busy })) (Mo := zc M1 ρ2) (fun b h => by rw [vx]; exact hm2.lt b h)
   (GlOk.grow (E := E) hm2.glob (by rw [vx]; exact Nat.le_refl _) hh2) hm2.dom hx2 (fun id ow h => .inr ⟨id, ow, h, rfl⟩) hm2.inj
   (fun id blk hb => (hm2.blk id blk hb).mono none (by simp) (z8 _) (fun ow ho => World.putObj_heap_other (hne2 id ow ho)) hh2 (fun _ _ h => h) (fun _ _ _ => rfl)) (by rw [vx]; have := hm2.below.size; omega) (hkb1 gg x) (hxc1 ρ2)
  generalize hM2 : (fun b => zc M1 ρ2 b ∧ ¬ ∃ id ow, ¬ lsO o id ∧ ρ2 id = some (some ow) ∧ ow.b = b) = M2 at *;have had : a1.defers = [] := ha2.defers rfl
  have ha3 : ARel (E.turnO lp (S1 gg x).mem o fun id => (ρ2 id).getD none) (W2.putObj lp (.loop { rec .ready none with state := .busy })) M2 (S1 gg x) a1 (W2.putObj lp (.loop { rec .ready none with state := .busy })) := by
   refine ⟨fun _ => had, ha2.size, ρ2, mr2, by rw [had]; exact Marks.nil, fun i => ?_⟩;rw [o2];exact (ht2 i).mono none (by cases (S1 gg x).get i <;> rfl) hh2 (fun _ _ h => h) (fun _ _ _ => U)
  refine wpIn_mono (hbody pre x post gg hxs hI lp _ M2 _ a1 _ ha3) ?_;rintro e2 a2 W3 ⟨s3, ha4, hq⟩;obtain ⟨ρ3, hm3, _, _⟩ := ha4.ex
  have hnl2 : ¬ (E.turnO lp (S1 gg x).mem o fun id => (ρ2 id).getD none).lent lp := fun h => by obtain ⟨id, ow, h1, h2⟩ := (l2 _).1 h; exact hne2 id ow h1 h2
  have hnD2 : ¬ (E.turnO lp (S1 gg x).mem o fun id => (ρ2 id).getD none).lent D := fun h => by obtain ⟨id, ow, h1, h2⟩ := (l2 _).1 h; exact hne2D id ow h1 h2
  have f3 : W3.heap[lp]? = some (.loop { rec .ready none with state := .busy }) := (hm3.below.block lp (by rw [vx]; exact hlpW2) hnl2).trans (World.putObj_heap_same hlpW2);have f4 : W3.heap[D]? = some (.deferred (some [])) := (hm3.below.block D (by rw [vx]; omega) hnD2).trans ((World.putObj_heap_other (by omega)).trans e4)
  have b13 : BelowX (fun b => b = lp ∨ ∃ id ow, ρ1 id = some (some ow) ∧ ow.b = b) W1 W3 := by
   have hb := hm3.below;have hb2 := hm2.below;refine ⟨hb.os.trans hb2.os, hb.tape.trans hb2.tape, hb.output.trans hb2.output, by have := hb.size; rw [vx] at this; exact Nat.le_trans hb2.size this, fun k hk hl => ?_⟩;refine (hb.block k (by rw [vx]; exact Nat.lt_of_lt_of_le hk hb2.size) ?_).trans ((World.putObj_heap_other fun e => hl (.inl e)).trans (hb2.block k hk fun h => hl (.inr ((l1 k).1 h))));intro h;obtain ⟨id, ow, h1, rfl⟩ := (l2 _).1 h
   rcases (hm2.fresh id ow h1).1 with g | g
   ·omega
   ·exact hl (.inr ((l1 _).1 g))
  have hρ3 : ∀ id y, ¬ lsO o id → ρ2 id = some y → ρ3 id = some y := fun id y hi h => hm3.keep id y ((qfs (hkb1 gg x)).2 ⟨hi, hm2.dom id y h, by simp only [h, Option.getD_some]⟩)
  have hsub3 : ∀ b, ((Mo b ∨ N b) ∨ Y b) → zc M2 ρ3 b := fun b h => by
   by_cases hs : ∃ id ow, ¬ lsO o id ∧ ρ2 id = some (some ow) ∧ ow.b = b
   ·obtain ⟨id, ow, h1, h2, h3⟩ := hs;exact .inr ⟨id, ow, hρ3 id _ h1 h2, h3⟩
   ·exact .inl (by rw [← hM2]; exact ⟨hMM b h, hs⟩)
  have hold3 : ∀ id ow, ρ3 id = some (some ow) → (∃ id0 ow0, ρ id0 = some (some ow0) ∧ ow0.b = ow.b) ∨ Y ow.b ∨ W1.heap.size ≤ ow.b := fun id ow h => by
   have hst : ∀ b, (∃ id ow, ρ1 id = some (some ow) ∧ ow.b = b) → (∃ id0 ow0, ρ id0 = some (some ow0) ∧ ow0.b = b) ∨ Y b ∨ W1.heap.size ≤ b := by
    rintro b ⟨i1, o1, q1, rfl⟩
    rcases r4 i1 o1 q1 with q | q
    ·exact .inl q
    ·exact .inr (.inl q)
   rcases (hm3.fresh id ow h).1 with g | g
   ·rw [vx] at g;exact .inr (.inr (Nat.le_trans hm2.below.size g))
   ·obtain ⟨i2, o2', q1, q2⟩ := (l2 _).1 g
    rcases (hm2.fresh i2 o2' q1).1 with g | g
    ·exact .inr (.inr (q2 ▸ g))
    ·rw [← q2]; exact hst _ ((l1 _).1 g)
  have fin : ∀ (mx : Mem) (jump : Option Code), qby (m g0) mx → qda mx = true → MemL s3 mx →
    ∃ W4, (Instr.endRound lp jump).run E.P W3 = .ok (.bool jump.isNone) W4 ∧ BelowX (fun b => Mo b ∨ Y b) W1 W4 ∧ ∃ Y5, (∀ b, Y5 b → (Y b ∨ W1.heap.size ≤ b) ∧ b < W4.heap.size) ∧ JmL ρ Mo N Y5 o lp D w2 (.loop (rec (if jump.isNone then .ready else .done) jump)) mx W4 := by
   intro mx jump hs hgd hml;simp only [qda, Bool.and_eq_true] at hgd;have hr := run_endRound (P := E.P) jump f3
   have hrr : ({ ({ rec .ready none with state := .busy } : Loop) with state := if jump.isNone then .ready else .done, pending := jump } : Loop) = rec (if jump.isNone then .ready else .done) jump := by rw [hrec]
   rw [hrr] at hr;have b14 : BelowX (fun b => b = lp ∨ ∃ id ow, ρ1 id = some (some ow) ∧ ow.b = b) W1 (W3.putObj lp (.loop (rec (if jump.isNone then .ready else .done) jump))) := b13.trans (wm _ _ _ (.inl rfl))
   let ρ5 : Rho := fun id => if (qr mx id).isSome = true then ρ3 id else none
   have h5 : ∀ id, (qr mx id).isSome = true → ρ5 id = ρ3 id := fun id hi => by simp only [ρ5, if_pos hi]
   have h5' : ∀ id y, ρ5 id = some y → ρ3 id = some y ∧ (qr mx id).isSome = true := by
    intro id y hy;simp only [ρ5] at hy
    split at hy
    ·rename_i hi; exact ⟨hy, hi⟩
    ·cases hy
   let Y5 : Nat → Prop := fun b => Y b ∨ (W1.heap.size ≤ b ∧ ∃ id ow, ρ5 id = some (some ow) ∧ ow.b = b)
   have hY5 : ∀ b, Y5 b → (Y b ∨ W1.heap.size ≤ b) ∧ b < W3.heap.size := by
    rintro b (h | ⟨h, id, ow, h1, rfl⟩)
    ·exact ⟨.inl h, Nat.lt_of_lt_of_le (j6 b h).2 b13.size⟩
    ·exact ⟨.inr h, (hm3.fresh id ow (h5' id _ h1).1).2⟩
   have hY5' : ∀ b, Y5 b → w2.heap.size ≤ b := fun b hb => (hY5 b hb).1.elim (j6' b) fun h => Nat.le_trans j1.size h
   have r45 : ∀ id ow, ρ5 id = some (some ow) → (∃ id0 ow0, ρ id0 = some (some ow0) ∧ ow0.b = ow.b) ∨ Y5 ow.b := fun id ow h => by
    rcases hold3 id ow (h5' id _ h).1 with q | q | q
    ·exact .inl q
    ·exact .inr (.inl q)
    ·exact .inr (.inr ⟨q, id, ow, h, U⟩)
   have hne5 : ∀ id ow, ρ5 id = some (some ow) → ow.b ≠ lp := fun id ow h => by
    rcases r45 id ow h with ⟨i0, o0, q1, q2⟩ | q
    ·have := hρlt i0 o0 q1; omega
    ·have := hY5' _ q; omega
   have hmxs : ∀ id, (∃ b, qr mx id = some b) ↔ ∃ b, qr (m gg) id = some b := fun id => by rw [qkf, hs, ← hids gg, ← qkf]
   refine ⟨_, hr, b14.mono ?_, Y5, fun b hb => ⟨(hY5 b hb).1, by rw [vx]; exact (hY5 b hb).2⟩, ?_, World.putObj_heap_same (Array.getElem?_eq_some_iff.1 f3).1, (World.putObj_heap_other (by omega)).trans f4, j5, fun b hb => ⟨hY5' b hb, by rw [vx]; exact (hY5 b hb).2⟩, ρ5, fun id hi => ?_, fun id y hy => Option.isSome_iff_exists.1 (h5' id y hy).2, fun id id' ow ow' h h' => hm3.inj id id' ow ow' (h5' id _ h).1 (h5' id' _ h').1, r45, fun id blk hb => ?_⟩
   ·rintro b (h | ⟨id, ow, h, rfl⟩)
    ·exact .inl (.inr (.inr h))
    ·rcases r4 id ow h with ⟨i0, o0, q1, q2⟩ | q
     ·exact .inl (q2 ▸ hsubMo i0 o0 q1)
     ·exact .inr q
   ·refine ⟨b14.os.trans j1.os, b14.tape.trans j1.tape, b14.output.trans j1.output, Nat.le_trans j1.size b14.size, fun k hk hl => (b14.block k (Nat.lt_of_lt_of_le hk j1.size) ?_).trans (j1.block k hk hl)⟩;rintro (h | ⟨id, ow, h, rfl⟩)
    ·exact hl (.inl h)
    ·rcases r4 id ow h with ⟨i0, o0, q1, q2⟩ | q
     ·exact hl (.inr ⟨i0, o0, q1, q2⟩)
     ·have := j6' _ q; omega
   ·cases hq : qr mx id with
    | some b =>
     obtain ⟨b', hb'⟩ := (hmxs id).1 ⟨b, hq⟩;have h1 := hx1 id b' hb';rw [h5 id (by rw [hq]; rfl), hρ3 id _ hi (hρ2 id _ hi h1), ← h1, r1 id hi]
    | none =>
     have h1 : ρ5 id = none := by simp only [ρ5, hq]; rfl
     rw [h1]
     cases hr0 : ρ id with
     | none => rfl
     | some y =>
      obtain ⟨b, hb⟩ := r2 id y (by rw [r1 id hi]; exact hr0);obtain ⟨b', hb'⟩ := (hmxs id).2 ⟨b, hb⟩;rw [hq] at hb'; cases hb'
   ·have hi : (qr mx id).isSome = true := by rw [hb]; rfl
    have h6 : BRel W3 (fun b => (Mo b ∨ N b) ∨ Y5 b) ρ5 id blk := BRel.clo hi (List.all_eq_true.1 hgd.2 _ (jk _ hb)) (hm3.blk id blk (qen hml id blk hb)) (fun b h => by
     rcases h with h | h | ⟨_, i3, o3, h, rfl⟩
     ·exact hsub3 b (.inl h)
     ·exact hsub3 b (.inr h)
     ·exact .inr ⟨i3, o3, (h5' i3 _ h).1, U⟩) h5
    exact h6.mono none (by simp) (z8 _) (fun ow ho => World.putObj_heap_other (hne5 id ow ho)) (fun b _ hno => World.putObj_heap_other fun e => hno (.inl (.inl (.inr (.inr e))))) (fun _ _ h => h) (fun _ _ _ => U)
  cases e2 with
  | normal =>
   obtain ⟨g', hI', hq⟩ := hq;obtain ⟨W4, g1, g2, Y5, g3, g4⟩ := fin (m g') none (hids _) (hgood _) hq;exact ⟨_, W4, g1, g2, _, U, Y5, g3, ⟨(fun _ => ⟨g', hI', g4⟩), (fun h => by cases h)⟩⟩
  | ret =>
   obtain ⟨mx, q1, q2, q3, q4⟩ := hq;obtain ⟨W4, g1, g2, Y5, g3, g4⟩ := fin mx (some .ret) q2 q3 q4;exact ⟨_, W4, g1, g2, _, U, Y5, g3, ⟨(fun h => by cases h), fun _ => ⟨_, mx, q1, q2, g4⟩⟩⟩
  | exit id =>
   obtain ⟨mx, q1, q2, q3, q4⟩ := hq;obtain ⟨W4, g1, g2, Y5, g3, g4⟩ := fin mx (some (.exit id)) q2 q3 q4;exact ⟨_, W4, g1, g2, _, U, Y5, g3, ⟨(fun h => by cases h), fun _ => ⟨_, mx, q1, q2, g4⟩⟩⟩
  | _ => exact hq.elim
 ·-- AT THE START
  refine ⟨fun _ => ⟨g0, hg0, BelowX.refl _ w2, hL, hD, (fun _ h => h.elim), (fun _ h => h.elim), ρ, (fun _ _ => U), hm.dom, hm.inj, (fun id ow h => .inl ⟨id, ow, h, U⟩), fun id blk hb => ?_⟩, fun h => by cases h⟩;exact (hm.blk id blk hb).mono none (by simp) (z8 _) (fun ow ho => hgr.block _ (by have := hρlt id ow ho; omega)) hgr.hh (fun b hb h => hMoSub b hb (h.elim (fun h => h.elim (fun h => h) (fun h => h.elim)) (fun h => h.elim))) (fun _ _ _ => U)
 ·-- BEHIND THE ITERATOR
  rintro e W' ⟨⟨v, rfl⟩, Y, _, ⟨hJ, _⟩ | ⟨pre, _, hJ⟩⟩
  ·obtain ⟨gg, hI, hJ⟩ := hJ rfl;refine ⟨none, _, ?_, _, back _ _ _ _ _ _ (hids gg) hJ, hdone gg hI⟩;have := run_endLoop (P := E.P) hJ.2.1 (by rw [hrec]; simp);rw [this, hrec]
  ·obtain ⟨co, mx, q1, q2, hJ⟩ := hJ rfl;have hl := run_endLoop (P := E.P) hJ.2.1 (by rw [hrec]; simp);have hb := hstop co pre mx q1 _ _ (back _ _ _ _ _ _ q2 hJ);rw [hF] at hb
   have hpe : (rec .done (some co)).pending = some co := by rw [hrec]
   refine ⟨some co, _, ?_, hb⟩;rw [hl];subst hrec
   rfl
def q43 {γ : Type} (E : Env) (w0 : World) (M0 : Nat → Prop) (Q : Exit → ASt → Prop) (n : Nat) (t : Nat → TV) (m : γ → Mem) (K : γ → Prop) (m0 : Mem) : Exit → ASt → Prop
 | .normal, s => ∃ g, K g ∧ MemL s (m g)
 | .ret, s => ∃ mx, AWp E w0 M0 .ret Q ⟨n, t, mx⟩ ∧ qby m0 mx ∧ qda mx = true ∧ MemL s mx
 | .exit id, s => ∃ mx, AWp E w0 M0 (.exit id) Q ⟨n, t, mx⟩ ∧ qby m0 mx ∧ qda mx = true ∧ MemL s mx
 | _, _ => False
theorem qm4 {c : Nat} : ∀ {l : List (Nat × TV)}, l.all (fun q => noref (some c) q.2) = true → ∀ i, noref (some c) (xj l i) = true
 | [], _, _ => rfl
 | (k, v) :: r, h, i => by
  simp only [List.all_cons, Bool.and_eq_true] at h;simp only [xj]
  cases Nat.beq k i with
  | true => exact h.1
  | false => exact qm4 h.2 i
theorem qvb {α γ : Type} {gop : Operand} {p : Tmp} {assign body : Code} {Q : Exit → ASt → Prop} {n : Nat} {l : List (Nat × TV)} {gf : FuncId} {caps : List G} {enc : α → Value} {s : ASt}
  (c kb : Nat) (xs : List α) (m : γ → Mem) (K : List α → γ → Prop) (g0 : γ) (S1 : γ → α → (Nat → TV) × Mem)
  (hn : s.n = n) (hwk : qjx s l) (hwm : MemL s (m g0)) (hcl : wc l (m g0) = true)
  (hg : ASt.eval E ⟨n, xj l, m g0⟩ gop = .g (.fn (.func gf) [] caps)) (hk : zf E.P gf) (hseq : SeqN E gf caps enc xs) (gx : α → G) (hgx : ∀ x w M, (gx x).p w M (enc x))
  (hK0 : K xs g0) (hp : Nat.blt p n = true) (hids : ∀ g, qby (m g0) (m g)) (hgood : ∀ g, qda (m g) = true)
  (hkc : Nat.beq kb c = false) (hkb : ∀ g, (qr (m g) kb).isSome = true) (hkb1 : ∀ g x, (qr (S1 g x).2 kb).isSome = true) (htc : l.all (fun q => noref (some c) q.2) = true)
  (hassign : ∀ x g lp w1 M1 x1, AWp (E.turnO lp (m g) (some (c, kb)) x1) w1 M1 assign (fun e s' => e = .normal ∧ s' = ⟨n, (S1 g x).1, (S1 g x).2⟩) ⟨n, upd p (.g (gx x)) (xj l), m g⟩)
  (hlive1 : ∀ g x, q4o (S1 g x).2 = true)
  (hbody : ∀ x post g, (∃ pre, xs = pre ++ x :: post) → K (x :: post) g → ∀ lp w1 M1 x1, AWp (E.turnO lp (S1 g x).2 (some (c, kb)) x1) w1 M1 body (q43 E w0 M0 Q n (xj l) m (K post) (m g0)) ⟨n, (S1 g x).1, (S1 g x).2⟩)
  (hdone : ∀ g, K [] g → Q .normal ⟨n, xj l, m g⟩)
  (hbw : qkv E (m g0) = true := by rfl) (hmk : E.mks = true := by rfl) (hrn : E.rnd = none := by rfl) (hbc : qr E.bow c = none := by rfl) : AWp E w0 M0 (.rangeFunc gop #[p] assign body) Q s := by
 have hne : kb ≠ c := fun e => by rw [e, Nat.beq_refl] at hkc; cases hkc
 refine qq4 (l := l) hwk hwm hcl ?_ hbw;show AWp E w0 M0 _ Q ⟨s.n, xj l, m g0⟩;rw [hn];refine qic (some (c, kb)) m (fun pre g => ∃ tl, xs = pre ++ tl ∧ K tl g) g0 (fun g x => ⟨n, (S1 g x).1, (S1 g x).2⟩) (fun co _ mx => AWp E w0 M0 co Q ⟨n, xj l, mx⟩) hmk hrn hk (Nat.le_of_ble_eq_true hp) hg hseq gx hgx ⟨xs, U, hK0⟩ hids hgood
  (fun pre x post g _ _ lp w1 M1 x1 => hassign x g lp w1 M1 x1) hlive1 ?_ (fun g _ _ e => by cases e; exact ⟨Option.isSome_iff_exists.1 (hkb g), hne⟩) (fun g x _ _ e => by cases e; exact ⟨Option.isSome_iff_exists.1 (hkb1 g x), hne⟩) (fun _ ⟨_, e⟩ => by cases e; exact hbc) (qm4 htc) ?_ (fun _ _ _ h => h)
 ·rintro pre x post g hxs ⟨tl, htl, hK⟩ lp w1 M1 x1;obtain rfl : tl = x :: post := List.append_cancel_left (htl.symm.trans hxs);refine (hbody x post g ⟨pre, hxs⟩ hK lp w1 M1 x1).mono ?_;rintro e s' h
  cases e with
  | normal =>
   obtain ⟨g', h1, h2⟩ := h;exact ⟨g', ⟨post, by rw [hxs]; simp, h1⟩, h2⟩
  | ret => exact h
  | exit id => exact h
  | _ => exact h
 ·rintro g ⟨tl, htl, hK⟩
  obtain rfl : tl = [] := by
   have := congrArg List.length htl
   simp at this
   exact this
  exact hdone g hK
end
section
variable {E : Env} {w0 : World} {M0 : Nat → Prop}
theorem qgo {m : Mem} (h : qxd m = true) : qda m = true := by
 simp only [qxd, qda, Bool.and_eq_true, List.all_eq_true] at h ⊢;refine ⟨fun q hq => (h q hq).1, fun q hq => ?_⟩;have h1 := (h q hq).2;obtain ⟨i, b⟩ := q
 cases b with
 | box cs =>
  refine List.all_eq_true.2 fun c hc => ?_;have h2 := List.all_eq_true.1 h1 c hc
  cases c <;> first | rfl | cases h2
 | _ => rfl
theorem qjb {α γ : Type} {gop : Operand} {p : Tmp} {assign body : Code} {Q : Exit → ASt → Prop} {n : Nat} {l : List (Nat × TV)} {gf : FuncId} {caps : List G} {enc : α → Value} {s : ASt}
  (xs : List α) (m : γ → Mem) (K : List α → γ → Prop) (g0 : γ) (S1 : γ → α → (Nat → TV) × Mem)
  (hn : s.n = n) (hwk : qjx s l) (hwm : MemL s (m g0)) (hcl : wc l (m g0) = true)
  (hg : ASt.eval E ⟨n, xj l, m g0⟩ gop = .g (.fn (.func gf) [] caps)) (hk : zf E.P gf) (hseq : SeqN E gf caps enc xs) (gx : α → G) (hgx : ∀ x w M, (gx x).p w M (enc x))
  (hK0 : K xs g0) (hp : Nat.blt p n = true) (hids : ∀ g, qby (m g0) (m g)) (hgood : ∀ g, qxd (m g) = true)
  (hassign : ∀ x g lp w1 M1 x1, AWp (E.turn lp (m g) x1) w1 M1 assign (fun e s' => e = .normal ∧ s' = ⟨n, (S1 g x).1, (S1 g x).2⟩) ⟨n, upd p (.g (gx x)) (xj l), m g⟩)
  (hlive1 : ∀ g x, q4o (S1 g x).2 = true)
  (hbody : ∀ x post g, (∃ pre, xs = pre ++ x :: post) → K (x :: post) g → ∀ lp w1 M1 x1, AWp (E.turn lp (S1 g x).2 x1) w1 M1 body (q7y E w0 M0 Q n (xj l) m (K post) (m g0)) ⟨n, (S1 g x).1, (S1 g x).2⟩)
  (hdone : ∀ g, K [] g → Q .normal ⟨n, xj l, m g⟩)
  (hbw : qkv E (m g0) = true := by rfl) (hmk : E.mks = true := by rfl) (hrn : E.rnd = none := by rfl) : AWp E w0 M0 (.rangeFunc gop #[p] assign body) Q s := by
 refine qq4 (l := l) hwk hwm hcl ?_ hbw;show AWp E w0 M0 _ Q ⟨s.n, xj l, m g0⟩;rw [hn];refine qic none m (fun pre g => ∃ tl, xs = pre ++ tl ∧ K tl g) g0 (fun g x => ⟨n, (S1 g x).1, (S1 g x).2⟩) (fun co _ mx => AWp E w0 M0 co Q ⟨n, xj l, mx⟩) hmk hrn hk (Nat.le_of_ble_eq_true hp) hg hseq gx hgx ⟨xs, U, hK0⟩ hids (fun g => qgo (hgood g))
  (fun pre x post g _ _ lp w1 M1 x1 => hassign x g lp w1 M1 x1) hlive1 ?_ (fun _ _ _ e => by cases e) (fun _ _ _ _ e => by cases e) (fun _ ⟨_, e⟩ => by cases e) (fun _ => rfl) ?_ (fun _ _ _ h => h)
 ·rintro pre x post g hxs ⟨tl, htl, hK⟩ lp w1 M1 x1;obtain rfl : tl = x :: post := List.append_cancel_left (htl.symm.trans hxs);refine (hbody x post g ⟨pre, hxs⟩ hK lp w1 M1 x1).mono ?_;rintro e s' h
  cases e with
  | normal =>
   obtain ⟨g', h1, h2⟩ := h;exact ⟨g', ⟨post, by rw [hxs]; simp, h1⟩, h2⟩
  | ret => obtain ⟨mx, h1, h2, h3, h4⟩ := h; exact ⟨mx, h1, h2, qgo h3, h4⟩
  | exit id => obtain ⟨mx, h1, h2, h3, h4⟩ := h; exact ⟨mx, h1, h2, qgo h3, h4⟩
  | _ => exact h
 ·rintro g ⟨tl, htl, hK⟩
  obtain rfl : tl = [] := by
   have := congrArg List.length htl
   simp at this
   exact this
  exact hdone g hK
end
open Go.Proofs
abbrev limG (a2 : S2062) : List G := [G.str a2.Name, G.str a2.Kind, G.str a2.Terminal, G.int a2.Length, G.int a2.Step, G.int a2.fFrom, G.int a2.fTo, G.int a2.Period.fFrom, G.int a2.Period.fTo, G.int a2.Period.Days, G.int a2.Most]
def bF (a2 : S2062) : Int := IntKind.i64.wrap (Int.tdiv (IntKind.i64.wrap ((IntKind.i64.wrap (a2.fFrom + a2.Step)) - 1)) a2.Step)
def bN (a2 : S2062) : Int := max 0 (IntKind.i64.wrap ((IntKind.i64.wrap ((IntKind.i64.wrap (Int.tdiv a2.fTo a2.Step)) - (bF a2))) + 1))
def bAt (a2 : S2062) (a1 : Int) (x1 : Int) : Int := IntKind.i64.wrap ((IntKind.i64.wrap (1440 * a1)) + (IntKind.i64.wrap (a2.Step * (IntKind.i64.wrap ((bF a2) + x1)))))
def begL (a2 : S2062) (a1 : Int) : List Int := bif ((decide (a1 < a2.Period.fFrom)) || (decide (a2.Period.fTo < a1))) || (!(qi2 a2 a1)) then [] else (List.range (bN a2).toNat).map fun n => bAt a2 a1 (n : Nat)
theorem qx7 {α : Type} (f : Nat → α) {k n : Nat} (h : k < n) : (List.range n).map f = (List.range k).map f ++ f k :: (List.range' (k + 1) (n - k - 1)).map f := by
 have e : List.range n = List.range k ++ k :: List.range' (k + 1) (n - k - 1) := by
  rw [List.range_eq_range', List.range_eq_range', show n = k + ((n - k - 1) + 1) by omega, ← List.range'_append_1, Nat.zero_add, List.range'_succ]
  simp
 rw [e, List.map_append, List.map_cons]
theorem qx8 (n : Int) : -9223372036854775808 ≤ IntKind.i64.wrap n ∧ IntKind.i64.wrap n ≤ 9223372036854775807 := by rw [IntKind.wrap_i64]; omega
theorem qi8 {g : GL} (a2 : S2062) (a1 : Int) (hst : a2.Step ≠ 0) : SeqN (EG g) 122 [G.ref [G.int a1], G.ref (limG a2)] (Value.int .i64) (begL a2 a1) := by
 refine qi3 Tryz.func122 U U U fun l C => ?_;refine vv<|vv<|js [.p, .p, .p, .p, .p, .p, .p, .p, .p, .p, .p, .p, .p, .p, .p, .p, .p, .p]<|st U U (qg U ty3 U) U<|st U U (qd U qh4 U) U<|st U U (qd U qdg U) U<|st U U (qg U ty3 U) U<|st U U (ze U U U) U<|st U U (qk U U) U<|st_g U U U (ji _ _) (fun h => qg U ty3 U) U<|st_g U U U (ji _ _) (fun h => qd U qh4 U) U<|st_g U U U (ji _ _) (fun h => qd U qb1 (gd h U)) U<|st_g U U U (ji _ _) (fun h => qg U ty3 (gd h U)) U<|st_g U U U (ji _ _) (fun h => z6 U (gd h U) (gd h U)) U<|st U U (jm U U U U) U<|st U U (qk U U) U<|st_g U U U (ji _ _) (fun h => qp U kq U U U) U<|st_g U U U (ji _ _) (fun h => qg U ty3 U) U<|st_g U U U (ji _ _) (fun h => qf U q8f U (q7r a2 a1) (qe (gd h U) (qe (gd h U) qj))) U<|st_g U U U (ji _ _) (fun h => jn U (gd h U)) U<|st U U (jm U U U U) U<|qc ?_;refine qdu _ U (fun h1 => ?_) (fun h1 => ?_)
 ·replace h1 : (((decide (a1 < a2.Period.fFrom)) || (decide (a2.Period.fTo < a1))) || (!(qi2 a2 a1))) = true := h1;refine qtc<|.inr ?_;unfold begL;rw [h1]
  rfl
 ·replace h1 : (((decide (a1 < a2.Period.fFrom)) || (decide (a2.Period.fTo < a1))) || (!(qi2 a2 a1))) = false := h1
  have hxs : begL a2 a1 = (List.range (bN a2).toNat).map fun n => bAt a2 a1 (n : Nat) := by
   unfold begL;rw [h1]
   rfl
  have hbn : 0 ≤ bN a2 ∧ bN a2 ≤ 9223372036854775807 := by
   have := qx8 (IntKind.i64.wrap ((IntKind.i64.wrap (Int.tdiv a2.fTo a2.Step)) - (bF a2)) + 1);unfold bN; omega
  refine qdt<|vv<|js [.p, .p, .p, .p, .p, .p, .p, .p, .p, .p]<|st U U (qd U qok U) U<|st U U (qg U ty3 U) U<|st U U (qd U qh3 U) U<|st U U (qg U ty3 U) U<|st U U (jo U U U) U<|st U U (ku U U U) U<|st U U (qd U qh3 U) U<|st U U (qg U ty3 U) U<|st U U (qhr U U U hst) U<|st U U (je U U) U<|qc<|vv<|js [.p, .p, .p, .p, .p, .p, .p, .p, .p, .p]<|st U U (qd U qol U) U<|st U U (qg U ty3 U) U<|st U U (qd U qh3 U) U<|st U U (qg U ty3 U) U<|st U U (qhr U U U hst) U<|st U U (qk U U) U<|st U U (ku U U U) U<|st U U (jo U U U) U<|st U U (qix U U U) U<|st U U (qk U U) U<|qc<|qbn ?_;refine qh6 (γ := Nat) (fun g => [(0, .g (G.lit (.func (.yield l) #[] #[]))), (1, .g (G.ref [G.int a1])), (2, .g (G.ref (limG a2))), (4, .g (G.int (bF a2))), (41, .g (G.int (bN a2))), (42, .g (G.int ((g : Nat) : Int)))])
   (fun g => ((List.range g).map fun n => bAt a2 a1 (n : Nat), false)) (fun g => g ≤ (bN a2).toNat) (fun g => (bN a2).toNat - g) ⟨rfl, 0, ⟨rfl, rfl, rfl, rfl, rfl, rfl, trivial⟩, rfl, rfl, Nat.zero_le _, trivial⟩ ?_
  ·intro k hk;refine vv<|js [.p]<|st U U (ze U U U) U<|qc<|vv ?_;refine qdu _ U (fun h2 => ?_) (fun h2 => ?_)
   ·replace h2 : (decide (((k : Nat) : Int) < bN a2)) = true := h2;replace h2 := decT h2
    have hk2 : k < (bN a2).toNat := by omega
    refine qdt<|vv<|qbn<|vv<|js [.p, .p]<|st U U (qk U U) U<|st U U (je U U) U<|qc<|vv<|qmy [some .p, some .p, some .p, some .p, some .p, some .p, some .p, some .p, some .p, some .p, none, some .p] ?_;refine ist (st U U (qk U U) U (qc ?_));refine ist (st U U (qg U ty3 U) U (qc ?_));refine ist (st U U (qdf U U U) U (qc ?_));refine ist (st U U (qd U qh3 U) U (qc ?_));refine ist (st U U (qg U ty3 U) U (qc ?_));refine ist (st U U (qk U U) U (qc ?_));refine ist (st U U (qk U U) U (qc ?_));refine ist (st U U (jo U U U) U (qc ?_));refine ist (st U U (qdf U U U) U (qc ?_));refine ist (st U U (jo U U U) U (qc ?_));refine iy (bAt a2 a1 (k : Nat)) U U U U U U (fun w M ρ v h => h) (by rw [hxs]; exact qx7 _ hk2) fun b => ?_;refine ist (st U U (jn U U) U (qc ?_));refine qon ?_;refine qdu (!b) U (fun h4 => ?_) (fun h4 => ?_)
    ·refine qtc ?_;exact .inl h4
    ·have hb : b = true := by simpa using h4
     subst hb;refine qdt<|js [.p, .p]<|st U U (zl U U U (by (try dsimp only); unfold I64; omega)) U<|st U U (qk U U) U<|qc ?_;refine ⟨U, k + 1, ⟨U, U, U, U, U, U, O⟩, U, ?_, hk2, ?_⟩
     ·show _ = ((List.range (k + 1)).map _, false);rw [List.range_succ, List.map_append]; rfl
     ·show _ - (k + 1) < _; omega
   ·replace h2 : (decide (((k : Nat) : Int) < bN a2)) = false := h2;replace h2 := decF h2
    have hk2 : k = (bN a2).toNat := by omega
    refine qln<|.inr ?_;rw [hxs, hk2]
theorem q8m : tyK Tryz.prog 111 = some (1, false) := by kernel_rfl
theorem zcp : zf Tryz.prog 122 := ⟨_, Tryz.func122, by kernel_rfl, by kernel_rfl⟩
theorem kB60 : zf Tryz.prog 64 := ⟨_, Tryz.func64, by kernel_rfl, by kernel_rfl⟩
theorem q42 {g : GL} (a2 : S2062) (a1 : Int) : Con (EG g) 64 [G.agg (limG a2), G.int a1] (G.fn (.func 122) [] [G.ref [G.int a1], G.ref (limG a2)]) := by
 refine qm Tryz.func64 U U fun w0 M0 => ?_;refine qb<|qa [.p, .p, .p]<|st U U (zg U U) U<|st U U (zg U U) U<|st U U (je U U) U<|qc<|qb<|qa [.p, .p]<|st U U (w6 U U U) U<|st U U (je U U) U<|qc<|qo ?_;exact zb U (rv_g U)
def wdsL (a2 : S2062) (n : Nat) : List Int := (List.range n).flatMap fun (k : Nat) => begL a2 (a2.Period.fFrom + (k : Nat))
def zcq (a2 : S2062) : List Int := wdsL a2 (a2.Period.fTo + 1 - a2.Period.fFrom).toNat
def ofL (a0 : S2062) (ms : List S1079) : List Int := (ms.filter fun m => qb0 a0 m.Kind m.Terminal).map S1079.Moment
theorem qx9 : tyK Tryz.prog 191 = some (2, true) := by kernel_rfl
theorem q8n : vz Tryz.prog 191 = some [.string ⟨#[]⟩, .string ⟨#[]⟩] := by kernel_rfl
theorem q8o : Tryz.prog.underlying 190 = some (.map 191 4) := by kernel_rfl
theorem q44 : appK Tryz.prog 132 = some (3, 1, 8) := by kernel_rfl
theorem zcr : Tryz.prog.underlying 132 = some (.slice 3) := by kernel_rfl
theorem kzi4 : (Tryz.prog.info? 4).bind (·.zero) = some (.bool false) := by kernel_rfl
def MOk (a0 : S2062) (m : List ((ByteArray × ByteArray) × Bool)) : Prop := ∀ p ∈ m, ok2 p.1 ∧ p.2 = qb0 a0 p.1.1 p.1.2
theorem qou {K V : Type} [DecidableEq K] {k : K} {v : V} : ∀ {m : List (K × V)}, mget m k = some v → (k, v) ∈ m
 | [], h => by cases h
 | (a, b) :: m, h => by
  unfold mget at h
  by_cases e : a = k
  ·rw [decide_eq_true e] at h; cases h; subst e; exact List.mem_cons_self
  ·rw [decide_eq_false e] at h; exact List.mem_cons_of_mem _ (qou h)
theorem qtg {K V : Type} [DecidableEq K] {k : K} {v : V} {p : K × V} : ∀ {m : List (K × V)}, p ∈ mset m k v → p ∈ m ∨ p = (k, v)
 | [], h => by simp [mset] at h; exact .inr h
 | (a, b) :: m, h => by
  unfold mset at h
  by_cases e : a = k
  ·rw [decide_eq_true e] at h
   rcases List.mem_cons.1 h with h | h
   ·exact .inr h
   ·exact .inl (List.mem_cons_of_mem _ h)
  ·rw [decide_eq_false e] at h
   rcases List.mem_cons.1 h with h | h
   ·exact .inl (by rw [h]; exact List.mem_cons_self)
   ·rcases qtg h with h | h
    ·exact .inl (List.mem_cons_of_mem _ h)
    ·exact .inr h
theorem MOk.set {a0 : S2062} {m : List ((ByteArray × ByteArray) × Bool)} {k : ByteArray × ByteArray} (h : MOk a0 m) (hk : ok2 k) : MOk a0 (mset m k (qb0 a0 k.1 k.2)) := fun p hp => by
 rcases qtg hp with hp | rfl
 ·exact h p hp
 ·exact ⟨hk, U⟩
theorem agg2 {w : World} {M : Nat → Prop} {ρ : Rho} {p : ByteArray × ByteArray} {u : Value} (h : TRel w M ρ (.g (G.agg [G.str p.1, G.str p.2])) u) : u = kf2 p := by
 obtain ⟨vs, rfl, h⟩ := h
 match vs, h with
 | [a, b], ⟨⟨h1, _⟩, ⟨h2, _⟩, _⟩ =>
  have h1 : a = .string p.1 := h1;have h2 : b = .string p.2 := h2;rw [h1, h2]; rfl
theorem q41 {g : GL} (a0 : S2062) (a1 : List S1079) (hk : (vj kindL a0.Kind none).isSome = true) (hsz : ∀ m ∈ a1, m.Kind.size ≤ 1000 ∧ m.Terminal.size ≤ 1000) (hb : a1.length ≤ 1000) :
  Con (EG g) 63 [G.agg (limG a0), G.sl 7 (List.map S1079.c a1)] (G.sl 1 (List.map cInt (ofL a0 a1))) := by
 refine qm Tryz.func63 U U fun w0 M0 => ?_;refine qb<|qa [.p, .w]<|st U U (zg U U) U<|st_w U U (kh 4 3 1 U U U) U<|qc<|qb<|qa [.w]<|st_w U U (kh 5 3 1 U U U) U<|qc<|qb<|qa [.w, .p]<|st_w U U (qgi 6 U U) U<|st U U (qgl U U) U<|qc<|qb<|qb<|qa [.p, .p, .p]<|st U U (qk U U) U<|st U U (qy (f := S1079.c) (l := a1) U Tryz.underlying48 U) U<|st U U (qk U U) U<|qc<|qq ?_
 refine za (γ := Nat × List S1079 × List Int × List ((ByteArray × ByteArray) × Bool)) (fun g => ([(2, .g (G.ref (limG a0))), (5, .osl 5 1 0 (List.length g.2.2.1)), (6, .omap 6), (13, .g (G.sl 7 (List.map S1079.c a1))), (14, .g (G.int (List.length a1 : Int))), (15, .g (G.int ((g.1 : Nat) : Int)))],
  [(5, .arr 3 1 (List.map cInt g.2.2.1)), (6, mpB kf2 G.bool g.2.2.2)]))
  (fun g => g.2.2.1.length ≤ g.1 ∧ MOk a0 g.2.2.2 ∧ a1.drop g.1 = g.2.1 ∧ g.2.2.1 ++ ofL a0 g.2.1 = ofL a0 a1) (fun g => List.length g.2.1) ⟨rfl, (0, a1, [], []), ⟨rfl, rfl, rfl, rfl, rfl, rfl, trivial⟩, ⟨rfl, rfl, trivial⟩, rfl, ⟨Nat.zero_le _, fun _ h => by (cases h), rfl, rfl⟩, trivial⟩ ?_
 rintro ⟨k, tl, out, mm⟩ ⟨iv, hM, hd, hR⟩;replace iv : out.length ≤ k := iv;replace hM : MOk a0 mm := hM;replace hd : a1.drop k = tl := hd;replace hR : out ++ ofL a0 tl = ofL a0 a1 := hR;have hmk : ∀ p ∈ mm, ok2 p.1 := fun p hp => (hM p hp).1;refine qb<|qa [.p]<|st U U (ze U U U) U<|qc<|qb ?_;refine ql _ U (fun h1 => ?_) (fun h1 => ?_)
 ·replace h1 : (decide (((k : Nat) : Int) < (List.length a1 : Int))) = true := h1;obtain ⟨y, tl, rfl, hx1, hd⟩ := zq hd (decT h1);replace h1 := decT h1
  have hok : ok2 (y.Kind, y.Terminal) := by
   have hm : y ∈ a1 := List.mem_of_getElem? hx1;exact hsz y hm
  refine qn<|qb<|qq<|qb<|qa [.p, .p, .w, .w]<|st U U (z4 (f := S1079.c) (l := a1) (a := y) U Tryz.underlying48 jd U U (Int.natCast_nonneg _) hx1) U<|st U U (qp U jd U U U) U<|st_w U U (zh 8 U qny U U) U<|z7 U U (qw (tv := .g (G.agg (S1079.c y))) U jd U U U U U)<|qc<|qhk (l := [(2, .g (G.ref (limG a0))), (5, .osl 5 1 0 (List.length out)), (6, .omap 6), (8, .g (G.ref (S1079.c y))), (13, .g (G.sl 7 (List.map S1079.c a1))), (14, .g (G.int (List.length a1 : Int))), (15, .g (G.int ((k : Nat) : Int)))]) (m := [(5, .arr 3 1 (List.map cInt out)), (6, mpB kf2 G.bool mm)]) 8 U ⟨.inl ⟨U, U⟩, .inl ⟨U, U⟩, .inl ⟨U, U⟩, .inr (qgh U), .inl ⟨U, U⟩, .inl ⟨U, U⟩, .inl ⟨U, U⟩, O⟩ ⟨U, U, O⟩ U U<|qb<|qa [.p, .p, .p, .p, .p, .w, .w]<|st U U (qd U qea U) U<|st U U (qg U ty9 U) U<|st U U (qd U qh2 U) U<|st U U (qg U ty9 U) U<|st U U (qiw U q8n U u167 ty9 (z5 U (z5 U kx)) U) U<|st_w U U (zh 9 U q8n U U) U<|z7 U U (qw (tv := .g (G.agg [G.str y.Kind, G.str y.Terminal])) U qx9 U U U U U)<|qc<|qhk (l := [(2, .g (G.ref (limG a0))), (5, .osl 5 1 0 (List.length out)), (6, .omap 6), (8, .g (G.ref (S1079.c y))), (9, .g (G.ref [G.str y.Kind, G.str y.Terminal])), (13, .g (G.sl 7 (List.map S1079.c a1))), (14, .g (G.int (List.length a1 : Int))), (15, .g (G.int ((k : Nat) : Int)))]) (m := [(5, .arr 3 1 (List.map cInt out)), (6, mpB kf2 G.bool mm)]) 9 U ⟨.inl ⟨U, U⟩, .inl ⟨U, U⟩, .inl ⟨U, U⟩, .inl ⟨U, U⟩, .inr (qgh U), .inl ⟨U, U⟩, .inl ⟨U, U⟩, .inl ⟨U, U⟩, O⟩ ⟨U, U, O⟩ U U<|qb<|qa [.p, .p, .r, .p, .p, .p, .p, .p]<|st U U (qc7 U U) U<|st U U (qp U qx9 U U U) U<|st_r U U (qqj (k := (y.Kind, y.Terminal)) (z := false) ko2 hok hmk U q8o kzi4 (fun _ _ => U) U (fun _ _ _ _ h => agg2 h) U) U<|st U U (qk U U) U<|st U U (qu U U U) U<|st U U (qu U U U) U<|st U U (je U U) U<|st U U (je U U) U<|qc ?_;refine jy (γ := List ((ByteArray × ByteArray) × Bool)) (fun mm => ([(2, .g (G.ref (limG a0))), (5, .osl 5 1 0 (List.length out)), (6, .omap 6), (8, .g (G.ref (S1079.c y))), (10, .g (G.bool (qb0 a0 y.Kind y.Terminal))), (13, .g (G.sl 7 (List.map S1079.c a1))), (14, .g (G.int (List.length a1 : Int))), (15, .g (G.int ((k : Nat) : Int)))], [(5, .arr 3 1 (List.map cInt out)), (6, mpB kf2 G.bool mm)])) (fun mm => MOk a0 mm) ?_ ?_
  ·refine qb<|qa [.p, .p]<|st U U (qk U U) U<|st U U (jn U U) U<|qc ?_;refine ql _ U (fun h2 => ?_) (fun h2 => ?_)
   ·refine qb<|qa [.p, .p, .p, .p, .p, .p, .p]<|st U U (qp U kq U U U) U<|st U U (qd U qea U) U<|st U U (qg U ty9 U) U<|st U U (qd U qh2 U) U<|st U U (qg U ty9 U) U<|st U U (qf U q45 U (q4u a0 y.Kind y.Terminal hk) (qe U (qe U (qe U qj)))) U<|st U U (je U U) U<|qc<|qa [.p, .p, .p, .w]<|st U U (qc7 U U) U<|st U U (qp U qx9 U U U) U<|st U U (qk U U) U<|z7 U U (qrw (k := (y.Kind, y.Terminal)) (v := qb0 a0 y.Kind y.Terminal) (ins := false) ko2 hok hmk U q8o U (fun _ _ _ _ h => agg2 h) U U)<|qc ?_;exact ⟨U, mset mm (y.Kind, y.Terminal) (qb0 a0 y.Kind y.Terminal), ⟨U, U, U, U, U, U, U, U, O⟩, ⟨U, U, O⟩, U, hM.set hok, O⟩
   ·have h2 : (!(mhas mm (y.Kind, y.Terminal))) = false := h2
    have hv : vj mm (y.Kind, y.Terminal) false = qb0 a0 y.Kind y.Terminal := by
     unfold mhas at h2
     cases hq : mget mm (y.Kind, y.Terminal) with
     | none => rw [hq] at h2; cases h2
     | some v =>
      unfold vj;rw [hq];exact (hM _ (qou hq)).2
    refine qn ?_;exact ⟨U, mm, ⟨U, U, U, U, congrArg (fun b => TV.g (G.bool b)) hv, U, U, U, O⟩, ⟨U, U, O⟩, U, hM, O⟩
  ·intro mm hM;refine qb<|qa [.p]<|st U U (qk U U) U<|qc ?_;refine ql _ U (fun h2 => ?_) (fun h2 => ?_)
   ·have h2 : qb0 a0 y.Kind y.Terminal = true := h2
    have hlen : out.length ≤ 1000 := by
     have := (List.getElem?_eq_some_iff.1 hx1).1
     omega
    refine qa [.p, .p, .p, .p, .k, .p]<|st U U (zd U U) U<|st U U (qd U qaz U) U<|st U U (qg U ty3 U) U ?_;refine st U U (qt U zcr ty3 z3 U (qv U jh) U (by simp []) (by decide)) U ?_;refine st_k U U (ve (f := cInt) (out := out) (new := [y.Moment]) U q44 U U (wx U (wy (by decide) (by simp []))) (qrf U) (by simp; omega)) U ?_;refine st U U (zw U U) U<|qc<|qa [.p, .p]<|st U U (zl U U U (by unfold I64; omega)) U<|st U U (qk U U) U<|qc ?_;refine ⟨U, (k + 1, tl, out ++ [y.Moment], mm), ⟨U, U, U, U, U, U, O⟩, ⟨U, U, O⟩, U, ⟨?_, hM, hd, ?_⟩, by simp⟩
    ·simp; omega
    ·rw [← hR]; simp [ofL, h2]
   ·have h2 : qb0 a0 y.Kind y.Terminal = false := h2;refine qn<|qa [.p, .p]<|st U U (zl U U U (by unfold I64; omega)) U<|st U U (qk U U) U<|qc ?_;refine ⟨U, (k + 1, tl, out, mm), ⟨U, U, U, U, U, U, O⟩, ⟨U, U, O⟩, U, ⟨?_, hM, hd, ?_⟩, by simp⟩
    ·show out.length ≤ k + 1; omega
    ·rw [← hR]; simp [ofL, h2]
 ·replace h1 : (decide (((k : Nat) : Int) < (List.length a1 : Int))) = false := h1;obtain rfl := zu hd (decF h1)
  have hR : out = ofL a0 a1 := by rw [← hR]; simp [ofL]
  refine zr<|qb<|qa [.p, .p]<|st U U (zd U U) U<|st U U (zw U U) U<|qc<|qo ?_;rw [← hR];exact zb U (qat U U)
theorem qya {s : ByteArray} {i : Nat} (h : (s.get! i).toNat < 128) : Utf8.decode s i = ((s.get! i).toNat, 1) := by
 unfold Utf8.decode
 simp [h]
theorem qyb {s : ByteArray} {i : Nat} (h : 128 ≤ (s.get! i).toNat) : 128 ≤ (Utf8.decode s i).1 := by
 unfold Utf8.decode;simp only [Nat.add_zero];rw [if_neg (by omega)]
 repeat' split
 all_goals first | assumption | (simp [Utf8.runeError]; done) | (rename_i h2; simp only [Bool.and_eq_true, decide_eq_true_eq] at h2; have h3 := h2.1; dsimp only; omega)
theorem qvc {s : ByteArray} {i : Nat} (h : i < s.data.toList.length) : s.get! i = s.data.toList[i] := by
 have h' : i < s.data.size := by simpa using h
 show s.data[i]! = _;rw [getElem!_pos s.data i h']
 simp
theorem qyc (s : ByteArray) : ∀ n pos, s.size ≤ pos + n → qe7 (qlh s n pos) = qju (s.data.toList.drop pos) pos := by
 intro n
 induction n with
 | zero =>
  intro pos h;rw [List.drop_eq_nil_of_le (by simpa using h)]; rfl
 | succ n ih =>
  intro pos h;unfold qlh
  split
  ·rename_i hp
   have hl : pos < s.data.toList.length := by simpa using hp
   rw [List.drop_eq_getElem_cons hl, qe7, qju, ← qvc hl]
   rcases Nat.lt_or_ge (s.get! pos).toNat 128 with hb | hb
   ·rw [qya hb, ih (pos + 1) (by omega)];have e1 : (decide (((pos : Nat) : Int) = 0)) = decide ((pos : Int) = 0) := rfl;dsimp only;rw [Bool.or_comm ((decide ((65 : Int) ≤ _)) && _)]
   ·have hb2 := qyb hb
    have c1 : (!(((decide ((65 : Int) ≤ ((Utf8.decode s pos).1 : Int))) && (decide (((Utf8.decode s pos).1 : Int) ≤ 90))) || ((decide ((97 : Int) ≤ ((Utf8.decode s pos).1 : Int))) && (decide (((Utf8.decode s pos).1 : Int) ≤ 122))))) = true := by
     simp; omega
    have c2 : (!(((decide ((97 : Int) ≤ ((s.get! pos).toNat : Int))) && (decide (((s.get! pos).toNat : Int) ≤ 122))) || ((decide ((65 : Int) ≤ ((s.get! pos).toNat : Int))) && (decide (((s.get! pos).toNat : Int) ≤ 90))))) = true := by
     simp; omega
    dsimp only;rw [c1, c2]
    have d1 : (decide (((Utf8.decode s pos).1 : Int) ≠ 95) && (decide (((Utf8.decode s pos).1 : Int) < 48) || decide (57 < ((Utf8.decode s pos).1 : Int)))) = true := by simp; omega
    have d2 : (decide (((s.get! pos).toNat : Int) ≠ 95) && (decide (((s.get! pos).toNat : Int) < 48) || decide (57 < ((s.get! pos).toNat : Int)))) = true := by simp; omega
    rw [d1, d2]; simp
  ·rename_i hp
   rw [List.drop_eq_nil_of_le (by simpa using hp)]; rfl
theorem qd8 (s : ByteArray) : s147 s = s91 s := by
 unfold s147 s91 q0o;rw [qyc s _ 0 (by omega)]; rfl
theorem qyd {α : Type} {l : List α} {i : Nat} (h : i < l.length) : ixO l (i : Int) = some l[i] := by
 unfold ixO; rw [decide_eq_true (by omega), cond_true]; simp [h]
theorem qye (a b : Int) : qqh a b = decide (a < b) := by
 have h : ∀ x, s202 x = false := fun x => by unfold s202; simp
 unfold qqh; rw [h]; simp
theorem qth (t : Int) : ∀ {ms : List Int}, ms.Pairwise (· ≤ ·) → ∀ i (hi : i < ms.length), (ms[i] < t ↔ i < (ms.takeWhile (fun x => decide (x < t))).length)
 | [], _, i, hi => by simp at hi
 | x :: ms, h, i, hi => by
  rw [List.pairwise_cons] at h
  by_cases hx : x < t
  ·rw [List.takeWhile_cons_of_pos (by simp [hx])]
   cases i with
   | zero => simp [hx]
   | succ i =>
    have := qth t h.2 i (by simpa using hi);simp only [List.getElem_cons_succ, List.length_cons]
    omega
  ·rw [List.takeWhile_cons_of_neg (by simp [hx])]
   cases i with
   | zero => simp; omega
   | succ i =>
    have := h.1 (ms[i]'(by simpa using hi)) (List.getElem_mem _);simp only [List.getElem_cons_succ, List.length_nil]
    omega
theorem qov (t : Int) {ms : List Int} (h : ms.Pairwise (· ≤ ·)) (p : Nat) (hp : p = (ms.takeWhile (fun x => decide (x < t))).length) : ∀ (k lo hi : Nat), lo ≤ p → p ≤ hi → hi ≤ ms.length → hi - lo < k → ∃ b, qcp ms t k (lo : Int) (hi : Int) = some ((p : Int), b)
 | 0, lo, hi, _, _, _, h => by omega
 | k + 1, lo, hi, h1, h2, h3, h4 => by
  rw [qcp]
  by_cases hc : lo < hi
  ·rw [decide_eq_true (by omega : (lo : Int) < (hi : Int)), cond_true]
   have e : ((lo : Int) + (hi : Int)) / 2 = (((lo + hi) / 2 : Nat) : Int) := by omega
   have hlt : (lo + hi) / 2 < ms.length := by omega
   rw [e, qyd hlt];simp only [qz];rw [qye];have hi' := qth t h ((lo + hi) / 2) hlt;rw [← hp] at hi'
   by_cases hm : ms[(lo + hi) / 2] < t
   ·rw [decide_eq_true hm, cond_true, show ((((lo + hi) / 2 : Nat) : Int) + 1) = (((lo + hi) / 2 + 1 : Nat) : Int) by push_cast; rfl];exact qov t h p hp k _ _ (by have := hi'.1 hm; omega) h2 h3 (by omega)
   ·rw [decide_eq_false hm, cond_false];exact qov t h p hp k _ _ h1 (by have : ¬ (lo + hi) / 2 < p := fun q => hm (hi'.2 q); omega) (by omega) (by omega)
  ·have e1 : lo = p := by omega
   subst e1;rw [decide_eq_false (by omega : ¬ (lo : Int) < (hi : Int)), cond_false]
   by_cases hl : lo < ms.length
   ·rw [decide_eq_true (by omega : (lo : Int) < (ms.length : Int)), cond_true, qyd hl];simp only [qz, Bool.true_and]
    cases hq : (!(decide (ms[lo] = t)))
    ·exact ⟨_, U⟩
    ·exact ⟨_, U⟩
   ·rw [decide_eq_false (by omega : ¬ (lo : Int) < (ms.length : Int)), cond_false];simp only [qz, Bool.false_and, cond_false];exact ⟨_, U⟩
theorem qqp (t : Int) : ∀ {ms : List Int}, ms.Pairwise (· ≤ ·) → (ms.takeWhile (fun x => decide (x < t))).length = (ms.filter (fun x => decide (x < t))).length
 | [], _ => rfl
 | x :: ms, h => by
  rw [List.pairwise_cons] at h
  by_cases hx : x < t
  ·rw [List.takeWhile_cons_of_pos (by simp [hx]), List.filter_cons_of_pos (by simp [hx]), List.length_cons, List.length_cons, qqp t h.2]
  ·rw [List.takeWhile_cons_of_neg (by simp [hx]), List.filter_cons_of_neg (by simp [hx])]
   symm
   rw [List.length_nil, List.length_eq_zero_iff, List.filter_eq_nil_iff];intro y hy;have := h.1 y hy
   simp; omega
def cntI (ms : List Int) (b len : Int) : Int := ((ms.filter (fun x => decide (b ≤ x) && decide (x < b + len))).length : Nat)
theorem qlt (b len : Int) (hl : 0 ≤ len) : ∀ (ms : List Int), ((ms.filter (fun x => decide (x < b + len))).length : Int) - (ms.filter (fun x => decide (x < b))).length = cntI ms b len
 | [] => rfl
 | x :: ms => by
  have ih := qlt b len hl ms;unfold cntI at ih ⊢;simp only [List.filter_cons]
  by_cases h1 : x < b
  ·have h2 : x < b + len := by omega
   have h3 : ¬ b ≤ x := by omega
   simp only [h1, h2, h3, decide_true, decide_false, if_true, Bool.false_and, Bool.false_eq_true, if_false, List.length_cons]
   push_cast; omega
  ·by_cases h2 : x < b + len
   ·have h3 : b ≤ x := by omega
    simp only [h1, h2, h3, decide_true, decide_false, if_true, Bool.true_and, Bool.and_self, Bool.false_eq_true, if_false, List.length_cons]
    push_cast; omega
   ·simp only [h1, h2, decide_false, if_true, Bool.and_false, Bool.false_eq_true, if_false];exact ih
theorem qti {ms : List Int} (h : ms.Pairwise (· ≤ ·)) (t : Int) : qu3 ms t = some ((ms.filter (fun x => decide (x < t))).length : Int) := by
 unfold qu3 q0w;obtain ⟨b, hb⟩ := qov t h _ rfl (((List.length ms : Int) - 0).toNat + 1) 0 ms.length (Nat.zero_le _) (List.takeWhile_sublist _).length_le (Nat.le_refl _) (by omega);have hb : qcp ms t (((List.length ms : Int) - 0).toNat + 1) 0 (List.length ms : Int) = _ := hb;rw [hb, qqp t h]
 rfl
theorem qos {ms : List Int} (h : ms.Pairwise (· ≤ ·)) (hl : ms.length ≤ 1000) {b len : Int} (hb : 0 ≤ b) (hb2 : b ≤ 2000000000) (hlen : 0 ≤ len) (hlen2 : len ≤ 1440) : q0x ms b len = some (cntI ms b len) := by
 unfold q0x;rw [wrap_i64 (by unfold I64; omega), qti h, qti h];simp only [qz];have h1 := List.length_filter_le (fun x => decide (x < b + len)) ms;have h2 := List.length_filter_le (fun x => decide (x < b)) ms;rw [wrap_i64 (by unfold I64; omega), qlt b len hlen]
structure LimOk (a : S2062) : Prop where
 k : (vj kindL a.Kind none).isSome = true
 s0 : 1 ≤ a.Step
 s1 : a.Step ≤ 1440
 l0 : 1 ≤ a.Length
 l1 : a.Length ≤ 1440
 f0 : 0 ≤ a.fFrom
 f1 : a.fFrom ≤ 1439
 t0 : 0 ≤ a.fTo
 t1 : a.fTo ≤ 1439
 p0 : 0 ≤ a.Period.fFrom
 p1 : a.Period.fTo ≤ 1000000
 m0 : 0 ≤ a.Most
 m1 : a.Most ≤ 999999999
theorem q05 {a : S2062} (h : LimOk a) : bF a = (a.fFrom + a.Step - 1) / a.Step ∧ 0 ≤ bF a ∧ bF a ≤ 3000 ∧ a.fFrom ≤ a.Step * bF a := by
 have h1 := h.s0; have h2 := h.s1; have h3 := h.f0; have h4 := h.f1
 have e : bF a = (a.fFrom + a.Step - 1) / a.Step := by
  unfold bF;rw [wrap_i64 (n := a.fFrom + a.Step) (by unfold I64; omega), wrap_i64 (n := a.fFrom + a.Step - 1) (by unfold I64; omega), Int.tdiv_eq_ediv_of_nonneg (by omega)];have b1 : 0 ≤ (a.fFrom + a.Step - 1) / a.Step := Int.ediv_nonneg (by omega) (by omega);have b2 : (a.fFrom + a.Step - 1) / a.Step ≤ a.fFrom + a.Step - 1 := Int.ediv_le_self _ (by omega);rw [wrap_i64 (by unfold I64; omega)]
 have b1 : 0 ≤ (a.fFrom + a.Step - 1) / a.Step := Int.ediv_nonneg (by omega) (by omega);have b2 : (a.fFrom + a.Step - 1) / a.Step ≤ a.fFrom + a.Step - 1 := Int.ediv_le_self _ (by omega);have b3 := Int.emod_add_mul_ediv (a.fFrom + a.Step - 1) a.Step;have b4 := Int.emod_lt_of_pos (a.fFrom + a.Step - 1) (show 0 < a.Step by omega);refine ⟨e, by omega, by omega, ?_⟩;rw [e]; omega
theorem q46 {a : S2062} (h : LimOk a) : bN a = max 0 (a.fTo / a.Step - bF a + 1) := by
 obtain ⟨_, h5, h6, _⟩ := q05 h;have h1 := h.s0; have h3 := h.t0; have h4 := h.t1;have b1 : 0 ≤ a.fTo / a.Step := Int.ediv_nonneg (by omega) (by omega);have b2 : a.fTo / a.Step ≤ a.fTo := Int.ediv_le_self _ (by omega);unfold bN;rw [Int.tdiv_eq_ediv_of_nonneg (by omega), wrap_i64 (n := a.fTo / a.Step) (by unfold I64; omega), wrap_i64 (n := a.fTo / a.Step - bF a) (by unfold I64; omega), wrap_i64 (by unfold I64; omega)]
theorem q2v {a : S2062} (h : LimOk a) {d : Int} (hd : 0 ≤ d) (hd2 : d ≤ 1000000) {n : Nat} (hn : n < (bN a).toNat) : bAt a d n = 1440 * d + a.Step * (bF a + n) ∧ a.fFrom ≤ a.Step * (bF a + n) ∧ a.Step * (bF a + n) ≤ a.fTo := by
 obtain ⟨_, h5, h6, h7⟩ := q05 h;have hbn := q46 h;have h1 := h.s0; have h2 := h.s1; have h3 := h.t0; have h4 := h.t1;have b2 : a.fTo / a.Step ≤ a.fTo := Int.ediv_le_self _ (by omega)
 have hle : bF a + n ≤ a.fTo / a.Step := by omega
 have hm : a.Step * (bF a + n) ≤ a.Step * (a.fTo / a.Step) := Int.mul_le_mul_of_nonneg_left hle (by omega);have b3 := Int.emod_add_mul_ediv a.fTo a.Step;have b4 := Int.emod_nonneg a.fTo (show a.Step ≠ 0 by omega);have hm2 : a.Step * bF a ≤ a.Step * (bF a + n) := Int.mul_le_mul_of_nonneg_left (by omega) (by omega);refine ⟨?_, by omega, by omega⟩;unfold bAt;have hf := h.f0;rw [wrap_i64 (n := 1440 * d) (by unfold I64; omega), wrap_i64 (n := bF a + n) (by unfold I64; omega), wrap_i64 (n := a.Step * (bF a + n)) (by unfold I64; omega), wrap_i64 (by unfold I64; omega)]
theorem qkk {a : S2062} (h : LimOk a) {d b : Int} (hb : b ∈ begL a d) : a.Period.fFrom ≤ d ∧ d ≤ a.Period.fTo ∧ 1440 * d ≤ b ∧ b ≤ 1440 * d + 1439 := by
 have hp0 := h.p0; have hp1 := h.p1;unfold begL at hb
 cases hc : (((decide (d < a.Period.fFrom)) || (decide (a.Period.fTo < d))) || (!(qi2 a d))) with
 | true => rw [hc] at hb; cases hb
 | false =>
  rw [hc] at hb;simp only [Bool.or_eq_false_iff, decide_eq_false_iff_not] at hc;obtain ⟨n, hn, rfl⟩ := List.mem_map.1 hb;rw [List.mem_range] at hn;have := q2v h (d := d) (by omega) (by omega) hn;have := h.f0; have := h.t1
  omega
def zcs (i : Nat) (l : S2062) (own : List Int) (b : Int) : Option S2068 := bif decide (cntI own b l.Length > l.Most) then some ⟨(i : Nat), b, cntI own b l.Length⟩ else none
def exL (ms : List S1079) : List S2062 → Nat → List S2068
 | [], _ => []
 | l :: t, i => (zcq l).filterMap (zcs i l (ofL l ms)) ++ exL ms t (i + 1)
def winE (x : S2068) : Value := .agg #[.int .i64 x.Limit, .int .i64 x.Begin, .int .i64 x.Count]
def winG (x : S2068) : G := G.agg (S2068.c x)
theorem q8p (x : S2068) (w : World) (M : Nat → Prop) : (winG x).p w M (winE x) := ⟨[_, _, _], rfl, ⟨rfl, rfl⟩, ⟨rfl, rfl⟩, ⟨rfl, rfl⟩, trivial⟩
theorem q47 {x : S2068} {w : World} {M : Nat → Prop} {ρ : Rho} {v : Value} (h : TRel w M ρ (.g (winG x)) v) : v = winE x := by
 obtain ⟨vs, rfl, h⟩ := h
 match vs, h with
 | [a, b, c], ⟨⟨h1, _⟩, ⟨h2, _⟩, ⟨h3, _⟩, _⟩ =>
  have h1 : a = .int .i64 x.Limit := h1;have h2 : b = .int .i64 x.Begin := h2;have h3 : c = .int .i64 x.Count := h3;rw [h1, h2, h3]; rfl
theorem zct : qap Tryz.prog 60 = some [(0, 1), (1, 1), (2, 1)] := by kernel_rfl
theorem zcu : vz Tryz.prog 132 = some [.slice none 0 0] := by kernel_rfl
theorem q2w : tyK Tryz.prog 132 = some (1, false) := by kernel_rfl
theorem kz63 : vz Tryz.prog 62 = some [.string ⟨#[]⟩, .string ⟨#[]⟩, .string ⟨#[]⟩, .int .i64 0, .int .i64 0, .int .i64 0, .int .i64 0, .int .i64 0, .int .i64 0, .int .i64 0, .int .i64 0] := by kernel_rfl
theorem zcv : tyK Tryz.prog 22 = some (1, false) := by kernel_rfl
theorem zcw : tyK Tryz.prog 48 = some (1, false) := by kernel_rfl
theorem kE61 : zf Tryz.prog 63 := ⟨_, Tryz.func63, by kernel_rfl, by kernel_rfl⟩
theorem kE62 : zf Tryz.prog 65 := ⟨_, Tryz.func65, by kernel_rfl, by kernel_rfl⟩
structure MsOk (ms : List S1079) : Prop where
 len : ms.length ≤ 1000
 sz : ∀ m ∈ ms, m.Kind.size ≤ 1000 ∧ m.Terminal.size ≤ 1000
 srt : (ms.map S1079.Moment).Pairwise (· ≤ ·)
theorem qja {ms : List S1079} (h : MsOk ms) (l : S2062) : (ofL l ms).Pairwise (· ≤ ·) := by
 have h := h.srt;unfold ofL;rw [List.pairwise_map] at h ⊢;exact h.filter _
theorem qi9 {ms : List S1079} (h : MsOk ms) (l : S2062) : (ofL l ms).length ≤ 1000 := by
 have := List.length_filter_le (fun m => qb0 l m.Kind m.Terminal) ms;have := h.len;unfold ofL;rw [List.length_map]; omega
section
variable {α : Type} {E : Env} {l : Nat} {enc : α → Value} {xs : List α} {C : ItC E.P l enc xs} {Q : Exit → ASt → List α × Bool → Prop} {s : ASt} {p : List α × Bool}
def okY (oi oj : Oper) : Option Cls → Option Cls → Bool
 | some a, some b => okC oi oj a b
 | some .p, none => true
 | _, _ => false
theorem IStep.mono {ops : Array Oper} {o : Oper} {K K' : ASt → List α × Bool → Prop} {c : Option Cls} (hk : ∀ s p, K s p → K' s p) (h : IStep E l enc xs ops o K s p c) : IStep E l enc xs ops o K' s p c := by
 cases c with
 | some c =>
  obtain ⟨s', h1, h2⟩ := h;exact ⟨s', h1, hk _ _ h2⟩
 | none =>
  obtain ⟨hd, gb, hw, hf, ht⟩ := h;refine ⟨hd, gb, hw, fun e => hk _ _ (hf e), fun e => ?_⟩;obtain ⟨q1, q2, f, arg, ts, x, post, q3, q4, q5, q6, q7⟩ := ht e;exact ⟨q1, q2, f, arg, ts, x, post, q3, q4, q5, q6, fun b => hk _ _ (q7 b)⟩
variable {ops : Array Oper} {md : Region.Mode} {cl : Nat → Option Cls}
def iOp (E : Env) (l : Nat) (enc : α → Value) (xs : List α) (ops : Array Oper) (cl : Nat → Option Cls) (i : Nat) (K : ASt → List α × Bool → Prop) (s : ASt) (p : List α × Bool) : Prop :=
 match ops[i]? with
 | none => K s p
 | some o => IStep E l enc xs ops o K s p (cl i)
def anyI (E : Env) (l : Nat) (enc : α → Value) (xs : List α) (md : Region.Mode) (ops : Array Oper) (cl : Nat → Option Cls) (K : ASt → List α × Bool → Prop) : Nat → Array Bool → ASt → List α × Bool → Prop
 | 0, listed, s, p => Region.ready md ops listed = [] ∧ K s p
 | fuel + 1, listed, s, p => (Region.ready md ops listed = [] → K s p) ∧ ∀ i ∈ Region.ready md ops listed, iOp E l enc xs ops cl i (anyI E l enc xs md ops cl K fuel (listed.setIfInBounds i true)) s p
theorem anyI.sound (hmk : E.mks = false) (hbw : E.bow = []) : ∀ (fuel : Nat) (listed : Array Bool) (s : ASt) (p : List α × Bool), anyI E l enc xs md ops cl (Q .normal) fuel listed s p → ∀ a w, IRel E C s p a w →
  wpAnyIn E.F 0 E.P md ops (fun e a' w' => ∃ s' p', IRel E C s' p' a' w' ∧ Q e s' p') fuel listed a w
 | 0, _, s, p, h, a, w, ha => ⟨h.1, s, p, ha, h.2⟩
 | fuel + 1, _, s, p, h, a, w, ha => by
  refine ⟨fun h0 => ⟨s, p, ha, h.1 h0⟩, fun i hi => ?_⟩;have h1 := h.2 i hi;unfold iOp at h1;unfold wpOpIn
  split
  ·rename_i ho; simp only [ho] at h1; exact anyI.sound hmk hbw fuel _ s p h1 a w ha
  ·rename_i o ho
   simp only [ho] at h1;exact IStep.sound h1 hmk hbw ha fun s' p' a' w' h3 ha' => anyI.sound hmk hbw fuel _ s' p' h3 a' w' ha'
theorem qvd {K : ASt → List α × Bool → Prop} {i : Nat} {oi : Oper} (hi : ops[i]? = some oi) : ∀ (fuel : Nat) (listed : Array Bool) (s : ASt) (p : List α × Bool),
  (∀ j oj, ops[j]? = some oj → j ≠ i → listed.getD j true = false → (∀ e ∈ oj.after, Region.binds md e = true → e.on ≠ i) → oi.apart ops oj = true ∧ okY oi oj (cl i) (cl j) = true) →
  i ∈ Region.ready md ops listed → IStep E l enc xs ops oi (anyI E l enc xs md ops cl K fuel (listed.setIfInBounds i true)) s p (cl i) → anyI E l enc xs md ops cl K (fuel + 1) listed s p := by
 intro fuel
 induction fuel with
 | zero =>
  intro listed s p hfree hr hy;refine ⟨fun h => (by rw [h] at hr; cases hr), fun j hj => ?_⟩
  by_cases hji : j = i
  ·subst hji; unfold iOp; simp only [hi]; exact hy
  ·exfalso
   have hj' := ready_mono hj hji
   -- at once another is ready: what follows would have to be empty
   cases hc : cl i with
   | none =>
    obtain ⟨hjun, oj, hoj, hall⟩ := mem_ready.1 hj
    have hnot : ∀ e ∈ oj.after, Region.binds md e = true → e.on ≠ i := fun e he hb heq => by
     have h1 := hall e he hb;have h0 := (mem_ready.1 hr).1;rw [heq] at h1
     rcases Nat.lt_or_ge i listed.size with h' | h'
     ·simp [h'] at h0 h1; rw [h0] at h1; cases h1
     ·simp [Array.getElem?_eq_none h'] at h1
    have := (hfree j oj hoj hji hjun hnot).2;rw [hc] at this
    cases hcj : cl j <;> rw [hcj] at this <;> simp [okY] at this
   | some ci =>
    rw [hc] at hy;obtain ⟨u, _, hu⟩ := hy;rw [hu.1] at hj'
    cases hj'
 | succ fuel ih =>
  intro listed s p hfree hr hy;refine ⟨fun h => (by rw [h] at hr; cases hr), fun j hj => ?_⟩
  by_cases hji : j = i
  ·subst hji; unfold iOp; simp only [hi]; exact hy
  ·obtain ⟨hjun, oj, hoj, hall⟩ := mem_ready.1 hj
   have hnot : ∀ e ∈ oj.after, Region.binds md e = true → e.on ≠ i := fun e he hb heq => by
    have h1 := hall e he hb;have h0 := (mem_ready.1 hr).1;rw [heq] at h1
    rcases Nat.lt_or_ge i listed.size with h' | h'
    ·simp [h'] at h0 h1; rw [h0] at h1; cases h1
    ·simp [Array.getElem?_eq_none h'] at h1
   obtain ⟨hap, hok⟩ := hfree j oj hoj hji hjun hnot
   have hfree' : ∀ k ok, ops[k]? = some ok → k ≠ i → (listed.setIfInBounds j true).getD k true = false → (∀ e ∈ ok.after, Region.binds md e = true → e.on ≠ i) → oi.apart ops ok = true ∧ okY oi ok (cl i) (cl k) = true := fun k ok hk hki hun hno => by
    refine hfree k ok hk hki ?_ hno
    by_cases hjk : j = k
    ·subst hjk; exact hjun
    ·rw [getD_set_ne true hjk] at hun; exact hun
   cases hc : cl i with
   | none =>
    rw [hc] at hok
    cases hcj : cl j <;> rw [hcj] at hok <;> simp [okY] at hok
   | some ci =>
    rw [hc] at hy hok;obtain ⟨u, hy1, hy2⟩ := hy;have h1 := hy2.2 j (ready_mono hj hji);unfold iOp at h1 ⊢;simp only [hoj] at h1 ⊢;rw [Array.setIfInBounds_comm _ _ (Ne.symm hji)] at h1
    cases hcj : cl j with
    | some cj =>
     rw [hcj] at h1 hok;obtain ⟨t, h2, h3⟩ := h1;obtain ⟨s2, h4, h5⟩ := AStep.swap hap hok hy1 h2;refine ⟨s2, h4, ih (listed.setIfInBounds j true) s2 p hfree' (ready_mono hr (Ne.symm hji)) ?_⟩;rw [hc];exact ⟨t, h5, h3⟩
    | none =>
     rw [hcj] at h1 hok
     have hcp : ci = .p := by cases ci <;> simp [okY] at hok <;> rfl
     subst hcp;obtain ⟨a1, a2, a3⟩ := Oper.apart_spec hap;obtain ⟨i0, gi, ri, mi, i1, i2, i3, i4, rfl⟩ := hy1.parts ⟨by simp, by simp⟩;obtain rfl : mi = s.mem := i4 (.inl rfl);obtain ⟨j0, gj, hw, hf, ht⟩ := h1;have hev : ∀ x ∈ oj.op.operands, (⟨s.n, updO oi.dst ri s.tmps, s.mem⟩ : ASt).eval E x = s.eval E x := ju a1;have key : ∀ v p', anyI E l enc xs md ops cl K fuel ((listed.setIfInBounds j true).setIfInBounds i true) ((⟨s.n, updO oi.dst ri s.tmps, s.mem⟩ : ASt).put oj.dst v) p' →
       anyI E l enc xs md ops cl K (fuel + 1) (listed.setIfInBounds j true) (s.put oj.dst v) p' := fun v p' hk => by
      refine ih (listed.setIfInBounds j true) (s.put oj.dst v) p' hfree' (ready_mono hr (Ne.symm hji)) ?_;rw [hc];refine ⟨⟨s.n, updO oi.dst ri (updO oj.dst v s.tmps), s.mem⟩, ?_, ?_⟩
      ·exact AStep.ofParts (s := ⟨s.n, updO oj.dst v s.tmps, s.mem⟩) i0 ((jp a3).2 i1) (fun e => ((i2 e).anyMem (.inl U)).congr (fun x hx => ((ju a3) x hx).symm)) i3 (fun _ => U)
      ·rw [xp a2 ri v s.tmps];exact hk
     refine ⟨j0, gj, (jp a1).1 hw, fun e => key _ _ (hf e), fun e => ?_⟩;obtain ⟨q1, q2, f, arg, ts, x, post, q3, q4, q5, q6, q7⟩ := ht e;have e1 : (⟨s.n, updO oi.dst ri s.tmps, s.mem⟩ : ASt).eval E f = s.eval E f := hev f (by rw [q3]; simp [Op.operands, Call.operands]);have e2 : (⟨s.n, updO oi.dst ri s.tmps, s.mem⟩ : ASt).eval E arg = s.eval E arg := hev arg (by rw [q3]; simp [Op.operands, Call.operands]);rw [e1] at q4;rw [e2] at q5;exact ⟨q1, q2, f, arg, ts, x, post, q3, q4, q5, q6, fun b => key _ _ (q7 b)⟩
def q48 (md : Region.Mode) (ops : Array Oper) (cl : Nat → Option Cls) (listed : Array Bool) (i : Nat) : Bool :=
 match ops[i]? with
 | none => false
 | some oi => (List.range ops.size).all fun j => j == i || listed.getD j true || match ops[j]? with
   | some oj => oj.after.any (fun e => Region.binds md e && e.on == i) || (oi.apart ops oj && okY oi oj (cl i) (cl j))
   | none => true
theorem qve {i : Nat} {oi : Oper} {listed : Array Bool} (hi : ops[i]? = some oi) (h : q48 md ops cl listed i = true) (j : Nat) (oj : Oper)
  (hj : ops[j]? = some oj) (hne : j ≠ i) (hun : listed.getD j true = false) (hno : ∀ e ∈ oj.after, Region.binds md e = true → e.on ≠ i) :
  oi.apart ops oj = true ∧ okY oi oj (cl i) (cl j) = true := by
 simp only [q48, hi, List.all_eq_true, List.mem_range] at h;have h1 := h j (Array.getElem?_eq_some_iff.1 hj).1;simp only [hj, Bool.or_eq_true, beq_iff_eq, hne, false_or, hun, Bool.false_eq_true, Bool.and_eq_true] at h1
 rcases h1 with h1 | h1
 ·obtain ⟨e, he, hb⟩ := Array.any_eq_true'.1 h1;simp only [Bool.and_eq_true, beq_iff_eq] at hb;exact absurd hb.2 (hno e he hb.1)
 ·exact h1
def lexY (md : Region.Mode) (ops : Array Oper) (cl : Nat → Option Cls) : Nat → Nat → Array Bool → Bool
 | 0, _, listed => (Region.ready md ops listed).isEmpty
 | fuel + 1, k, listed => (Region.ready md ops listed).contains k && (q48 md ops cl listed k || (Region.ready md ops listed).all fun j => j == k) && lexY md ops cl fuel (k + 1) (listed.setIfInBounds k true)
theorem qtj {K : ASt → List α × Bool → Prop} : ∀ (lo : List Oper) (cs : List (Option Cls)) (k : Nat) (listed : Array Bool) (s : ASt) (p : List α × Bool), (∀ j, lo[j]? = ops[k + j]?) → (∀ j c, cs[j]? = some c → cl (k + j) = c) →
  lexY md ops cl lo.length k listed = true → IOps E l enc xs ops K lo cs s p → anyI E l enc xs md ops cl K lo.length listed s p
 | [], [], _, _, _, _, _, _, hB, h => ⟨by simpa [lexY] using hB, h⟩
 | o :: lo, c :: cs, k, listed, s, p, hl, hc, hB, h => by
  have h0 : ops[k]? = some o := by simpa using (hl 0).symm
  have hc0 : cl k = c := by simpa using hc 0 c (by simp)
  simp only [List.length_cons, lexY, Bool.and_eq_true] at hB;obtain ⟨⟨hr, hf⟩, hB'⟩ := hB;subst hc0
  have hr : k ∈ Region.ready md ops listed := by simpa using hr
  have hx := IStep.mono (fun s' p' h2 => qtj lo cs (k + 1) _ s' p' (fun j => by have := hl (j + 1); simpa [Nat.add_assoc, Nat.add_comm 1 j] using this)
    (fun j c hj => by have := hc (j + 1) c (by simpa using hj); simpa [Nat.add_assoc, Nat.add_comm 1 j] using this) hB' h2) h
  rw [Bool.or_eq_true] at hf
  rcases hf with hf | hf
  ·exact qvd h0 lo.length listed s p (qve h0 hf) hr hx
  ·refine ⟨fun h => (by rw [h] at hr; cases hr), fun j hj => ?_⟩;have := List.all_eq_true.1 hf j hj
   obtain rfl : j = k := by simpa using this
   unfold iOp;simp only [h0];exact hx
 | [], _ :: _, _, _, _, _, _, _, _, h => h.elim
 | _ :: _, [], _, _, _, _, _, _, _, h => h.elim
theorem IRel.draw {a : Act} {w : World} (h : IRel E C s p a w) : IRel E C s p a { w with drawn := w.drawn + 1 } := by
 obtain ⟨N, W1, k1, k2, k3, k4, k5, k6⟩ := h;exact ⟨N, W1, k1, k2, k3, k4, k5.draw, k6⟩
def q2x (ops : Array Oper) (cs : List (Option Cls)) : Bool := lexY .any ops (fun i => cs.getD i none) ops.size 0 (Array.replicate ops.size false)
theorem q06 {id : Nat} (cs : List (Option Cls)) (hB : q2x ops cs = true) (h : IOps E l enc xs ops (Q .normal) ops.toList cs s p) (hmk : E.mks = false := by rfl) (hbw : E.bow = [] := by rfl) : IWp E C (.region id ops true) Q s p := by
 intro a w ha;refine wpIn_region_any E.orders ?_;have h1 := qtj (md := .any) (cl := fun i => cs.getD i none) ops.toList cs 0 (Array.replicate ops.size false) s p (by simp) (fun j c hj => by simp [hj]) (by simpa [q2x] using hB) h;have h2 := anyI.sound (C := C) (Q := Q) hmk hbw _ _ s p h1 a _ ha.draw
 simpa using h2
end
def qvf (i : Nat) (l : S2062) (own : List Int) (m : S1079) (b : Int) : Option S2068 := bif decide (b ≤ m.Moment) && decide (m.Moment < b + l.Length) then some ⟨(i : Nat), b, cntI own b l.Length⟩ else none
def dsL (m : S1079) : List Int := [m.Moment / 1440 - 1, m.Moment / 1440]
def arW (ms : List S1079) (m : S1079) (i : Nat) (l : S2062) (n : Nat) : List S2068 := ((dsL m).take n).flatMap fun d => (begL l d).filterMap (qvf i l (ofL l ms) m)
def arL (ms : List S1079) (m : S1079) : List S2062 → Nat → List S2068
 | [], _ => []
 | l :: t, i => (bif qb0 l m.Kind m.Terminal then arW ms m i l 2 else []) ++ arL ms m t (i + 1)
theorem q8q : Tryz.prog.underlying 174 = some (.array 2 3) := by kernel_rfl
theorem zcx : vz Tryz.prog 174 = some [.int .i64 0, .int .i64 0] := by kernel_rfl
theorem qtk (ms : List S1079) (m : S1079) (i : Nat) (l : S2062) {n : Nat} {d : Int} (h : (dsL m)[n]? = some d) : arW ms m i l (n + 1) = arW ms m i l n ++ (begL l d).filterMap (qvf i l (ofL l ms) m) := by
 unfold arW;rw [List.take_add_one, h, List.flatMap_append]; simp
theorem q49 (ms : List S1079) (m : S1079) (i : Nat) (l : S2062) {n : Nat} (h : n ≤ 2) : ∃ post, arW ms m i l 2 = arW ms m i l n ++ post := by
 unfold arW;refine ⟨((dsL m).drop n).flatMap fun d => (begL l d).filterMap (qvf i l (ofL l ms) m), ?_⟩;rw [← List.flatMap_append, List.take_append_drop]; rfl
theorem qvg {g : GL} (a0 : List S2062) (a1 : List S1079) (m : S1079) (hl0 : a0.length ≤ 1000) (hl : ∀ x ∈ a0, LimOk x) (hm : MsOk a1) (hm0 : 0 ≤ m.Moment) (hm1 : m.Moment ≤ 143999999) :
  SeqN (EG g) 101 [G.ref [G.sl 11 (List.map S2062.c a0)], G.ref (S1079.c m), G.ref [G.sl 7 (List.map S1079.c a1)]] winE (arL a1 m a0 0) := by
 refine qi3 Tryz.func101 U U U fun l C => ?_;refine vv<|js [.p]<|st U U (zg U U) U<|qc<|vv<|js [.p, .p, .p]<|st U U (qg U zcv U) U<|st U U (qy (f := S2062.c) (l := a0) U Tryz.underlying22 U) U<|st U U (qk U U) U<|qc<|qbn ?_;refine qh6 (γ := Nat × List S2062 × List S2068) (fun g => [(1, .g (G.ref [G.sl 11 (List.map S2062.c a0)])), (2, .g (G.ref (S1079.c m))), (3, .g (G.ref [G.sl 7 (List.map S1079.c a1)])), (4, .g (G.ref [G.lit (.func (.yield l) #[] #[])])), (11, .g (G.sl 11 (List.map S2062.c a0))), (12, .g (G.int (List.length a0 : Int))), (13, .g (G.int ((g.1 : Nat) : Int)))])
  (fun g => (g.2.2, false)) (fun g => a0.drop g.1 = g.2.1 ∧ g.2.2 ++ arL a1 m g.2.1 g.1 = arL a1 m a0 0) (fun g => List.length g.2.1) ⟨rfl, (0, a0, []), ⟨rfl, rfl, rfl, rfl, rfl, rfl, rfl, trivial⟩, rfl, rfl, ⟨rfl, rfl⟩, trivial⟩ ?_
 rintro ⟨k, tl, pre0⟩ ⟨hd, hR⟩;replace hd : a0.drop k = tl := hd;replace hR : pre0 ++ arL a1 m tl k = arL a1 m a0 0 := hR;refine vv<|js [.p]<|st U U (ze U U U) U<|qc<|vv ?_;refine qdu _ U (fun h1 => ?_) (fun h1 => ?_)
 ·replace h1 : (decide (((k : Nat) : Int) < (List.length a0 : Int))) = true := h1;obtain ⟨y, tl, rfl, hx1, hd⟩ := zq hd (decT h1);replace h1 := decT h1;have hy : LimOk y := hl y (List.mem_of_getElem? hx1);rw [arL] at hR;have hlen := hm.len
  have hln : (List.length a0 : Int) ≤ 1000 := by have := hl0; omega
  refine qdt<|vv<|qbn<|vv<|js [.p, .p, .p, .w, .w, .w, .w]<|st U U (qk U U) U<|st U U (z4 (f := S2062.c) (l := a0) (a := y) U Tryz.underlying22 kq U U (Int.natCast_nonneg _) hx1) U<|st U U (qp U kq U U U) U<|st_w U U (zh 5 U z3 U U) U<|st_w U U (zh 6 U kz63 U U) U<|z7 U U (qw (tv := .g (G.int ((k : Nat) : Int))) U ty3 U U U U U)<|z7 U U (qw (tv := .g (G.agg (limG y))) U kq U U U U U)<|qc<|qh7 (l1 := [(1, .g (G.ref [G.sl 11 (List.map S2062.c a0)])), (2, .g (G.ref (S1079.c m))), (3, .g (G.ref [G.sl 7 (List.map S1079.c a1)])), (4, .g (G.ref [G.lit (.func (.yield l) #[] #[])])), (5, .g (G.ref [G.int ((k : Nat) : Int)])), (6, .ptr 6 0), (11, .g (G.sl 11 (List.map S2062.c a0))), (12, .g (G.int (List.length a0 : Int))), (13, .g (G.int ((k : Nat) : Int)))]) (m := [(6, .box [.g (G.str y.Name), .g (G.str y.Kind), .g (G.str y.Terminal), .g (G.int y.Length), .g (G.int y.Step), .g (G.int y.fFrom), .g (G.int y.fTo), .g (G.int y.Period.fFrom), .g (G.int y.Period.fTo), .g (G.int y.Period.Days), .g (G.int y.Most)])]) 5 U ⟨.inl ⟨U, U⟩, .inl ⟨U, U⟩, .inl ⟨U, U⟩, .inl ⟨U, U⟩, .inr (qgh U), .inl ⟨U, U⟩, .inl ⟨U, U⟩, .inl ⟨U, U⟩, .inl ⟨U, U⟩, O⟩ ⟨U, O⟩ U U<|qh7 (l1 := [(1, .g (G.ref [G.sl 11 (List.map S2062.c a0)])), (2, .g (G.ref (S1079.c m))), (3, .g (G.ref [G.sl 7 (List.map S1079.c a1)])), (4, .g (G.ref [G.lit (.func (.yield l) #[] #[])])), (5, .g (G.ref [G.int ((k : Nat) : Int)])), (6, .g (G.ref (limG y))), (11, .g (G.sl 11 (List.map S2062.c a0))), (12, .g (G.int (List.length a0 : Int))), (13, .g (G.int ((k : Nat) : Int)))]) (m := []) 6 U ⟨.inl ⟨U, U⟩, .inl ⟨U, U⟩, .inl ⟨U, U⟩, .inl ⟨U, U⟩, .inl ⟨U, U⟩, .inr (qgh U), .inl ⟨U, U⟩, .inl ⟨U, U⟩, .inl ⟨U, U⟩, O⟩ O U U<|vv<|vv<|js [.p, .p, .p, .p, .p, .p, .p]<|st U U (qp U kq U U U) U<|st U U (qd U qea U) U<|st U U (qg U ty9 U) U<|st U U (qd U qh2 U) U<|st U U (qg U ty9 U) U<|st U U (qf U q45 U (q4u y m.Kind m.Terminal hy.k) (qe U (qe U (qe U qj)))) U<|st U U (jn U U) U<|qc ?_;refine qdu _ U (fun h2 => ?_) (fun h2 => ?_)
  ·have h2 : qb0 y m.Kind m.Terminal = false := by simpa using h2
   rw [h2] at hR;refine qln<|js [.p, .p]<|st U U (zl U U U (by (try dsimp only); unfold I64; omega)) U<|st U U (qk U U) U<|qc ?_;refine ⟨U, (k + 1, tl, pre0), ⟨U, U, U, U, U, U, U, O⟩, U, U, ⟨hd, ?_⟩, ?_⟩
   ·simpa using hR
   ·simp
  ·have h2 : qb0 y m.Kind m.Terminal = true := by simpa using h2
   rw [h2] at hR;replace hR : pre0 ++ (arW a1 m k y 2 ++ arL a1 m tl (k + 1)) = arL a1 m a0 0 := hR;refine qdt<|vv<|js [.p, .p, .p, .w, .w]<|st U U (qp U kq U U U) U<|st U U (qg U zcw U) U<|st U U (qf U kE61 U (q41 y a1 hy.k hm.sz hm.len) (qe U (qe U qj))) U<|st_w U U (zh 7 U zcu U U) U<|z7 U U (qw (tv := .g (G.sl 1 (List.map cInt (ofL y a1)))) U q2w U U U U U)<|qc<|qh7 (l1 := [(1, .g (G.ref [G.sl 11 (List.map S2062.c a0)])), (2, .g (G.ref (S1079.c m))), (3, .g (G.ref [G.sl 7 (List.map S1079.c a1)])), (4, .g (G.ref [G.lit (.func (.yield l) #[] #[])])), (5, .g (G.ref [G.int ((k : Nat) : Int)])), (6, .g (G.ref (limG y))), (7, .g (G.ref [G.sl 1 (List.map cInt (ofL y a1))])), (11, .g (G.sl 11 (List.map S2062.c a0))), (12, .g (G.int (List.length a0 : Int))), (13, .g (G.int ((k : Nat) : Int)))]) (m := []) 7 U ⟨.inl ⟨U, U⟩, .inl ⟨U, U⟩, .inl ⟨U, U⟩, .inl ⟨U, U⟩, .inl ⟨U, U⟩, .inl ⟨U, U⟩, .inr (qgh U), .inl ⟨U, U⟩, .inl ⟨U, U⟩, .inl ⟨U, U⟩, O⟩ O U U<|vv<|js [.p, .p, .p, .p, .p, .p, .p, .p, .p]<|st U U (qd U qaz U) U<|st U U (qg U ty3 U) U ?_;refine st U U (qvt U U U hm0 (by decide) (by unfold I64; omega)) U ?_;refine st U U (vm U U U (by (try dsimp only); unfold I64; omega)) U<|st U U (qd U qaz U) U<|st U U (qg U ty3 U) U ?_;refine st U U (qvt U U U hm0 (by decide) (by unfold I64; omega)) U ?_;refine st U U (qiw U zcx U q8q ty3 (z5 U (z5 U kx)) U) U<|st U U (qk U U) U<|qc<|qbn ?_;refine qh6 (γ := Nat) (fun n => [(1, .g (G.ref [G.sl 11 (List.map S2062.c a0)])), (2, .g (G.ref (S1079.c m))), (3, .g (G.ref [G.sl 7 (List.map S1079.c a1)])), (4, .g (G.ref [G.lit (.func (.yield l) #[] #[])])), (5, .g (G.ref [G.int ((k : Nat) : Int)])), (6, .g (G.ref (limG y))), (7, .g (G.ref [G.sl 1 (List.map cInt (ofL y a1))])), (11, .g (G.sl 11 (List.map S2062.c a0))), (12, .g (G.int (List.length a0 : Int))), (13, .g (G.int ((k : Nat) : Int))), (35, .g (G.agg [G.int (m.Moment / 1440 - 1), G.int (m.Moment / 1440)])), (36, .g (G.int ((n : Nat) : Int)))])
    (fun n => (pre0 ++ arW a1 m k y n, false)) (fun n => n ≤ 2) (fun n => 2 - n) ⟨rfl, 0, ⟨rfl, rfl, rfl, rfl, rfl, rfl, rfl, rfl, rfl, rfl, rfl, rfl, trivial⟩, rfl, by simp [arW], Nat.zero_le _, trivial⟩ ?_
   intro n hn;refine vv<|js [.p]<|st U U (ze U U U) U<|qc<|vv ?_;refine qdu _ U (fun h3 => ?_) (fun h3 => ?_)
   ·replace h3 : (decide (((n : Nat) : Int) < 2)) = true := h3;replace h3 := decT h3
    obtain ⟨d, hd1, hd2⟩ : ∃ d, (dsL m)[n]? = some d ∧ ([G.int (m.Moment / 1440 - 1), G.int (m.Moment / 1440)] : List G)[((n : Nat) : Int).toNat]? = some (G.int d) := by
     have : n = 0 ∨ n = 1 := by omega
     rcases this with rfl | rfl
     ·exact ⟨_, U, U⟩
     ·exact ⟨_, U, U⟩
    obtain ⟨post0, hpost⟩ := q49 a1 m k y (n := n + 1) (by omega);rw [qtk a1 m k y hd1] at hpost;refine qdt<|vv<|qbn<|vv<|js [.p, .p]<|st U U (qxc U q8q ty3 U U (Int.natCast_nonneg _) (by omega) hd2) U<|st U U (je U U) U<|qc<|vv<|js [.p, .p, .p]<|st U U (qp U kq U U U) U<|st U U (qk U U) U<|st U U (qf U kB60 U (q42 y d) (qe U (qe U qj))) U<|qc<|qbn ?_;refine qxu (begL y d) [(1, .g (G.ref [G.sl 11 (List.map S2062.c a0)])), (2, .g (G.ref (S1079.c m))), (3, .g (G.ref [G.sl 7 (List.map S1079.c a1)])), (4, .g (G.ref [G.lit (.func (.yield l) #[] #[])])), (5, .g (G.ref [G.int ((k : Nat) : Int)])), (6, .g (G.ref (limG y))), (7, .g (G.ref [G.sl 1 (List.map cInt (ofL y a1))])), (11, .g (G.sl 11 (List.map S2062.c a0))), (12, .g (G.int (List.length a0 : Int))), (13, .g (G.int ((k : Nat) : Int))), (35, .g (G.agg [G.int (m.Moment / 1440 - 1), G.int (m.Moment / 1440)])), (36, .g (G.int ((n : Nat) : Int))), (41, .g (G.fn (.func 122) [] [G.ref [G.int d], G.ref (limG y)]))]
     (fun q => (pre0 ++ arW a1 m k y n) ++ q.filterMap (qvf k y (ofL y a1) m)) G.int (fun t z => updO (some 10) (.g (G.int z)) (upd 42 (.g (G.int z)) t)) rfl ⟨rfl, rfl, rfl, rfl, rfl, rfl, rfl, rfl, rfl, rfl, rfl, rfl, rfl, trivial⟩ rfl (by simp) zcp rfl rfl
     (qi8 y d (by have := hy.s0; omega)) (fun _ _ _ => rfl) ?_ ?_ ?_ ?_
    ·intro z pre lp C';refine js [.p]<|st U U (je U U) U<|qc ?_;exact ⟨U, U, U⟩
    ·intro q z post hq lp C';have hz := qkk hy (d := d) (b := z) (by rw [hq]; simp);have hp0 := hy.p0;have hp1 := hy.p1;have hl0' := hy.l0;have hl1' := hy.l1;refine qbn<|vv<|q06 [some .p, some .p, some .p, some .p, some .p, some .p, some .p, some .p, some .p, some .p, some .p, some .p, some .p, some .p, some .p, some .p, some .p, some .p, some .p, some .p, some .p, some .p, some .p, none, some .p, some .p] (by kernel_rfl) ?_;refine ist (st U U (qk U U) U (qc ?_));refine ist (st U U (qd U qaz U) U (qc ?_));refine ist (st U U (qg U ty3 U) U (qc ?_));refine ist (st U U (vl U U U) U (qc ?_));refine ist (st U U (qk U U) U (qc ?_));refine ist (st_g U U U (ji _ _) (fun h => qd U qaz U) U (qc ?_));refine ist (st_g U U U (ji _ _) (fun h => qg U ty3 (gd h U)) U (qc ?_));refine ist (st_g U U U (ji _ _) (fun h => qk U U) U (qc ?_));refine ist (st_g U U U (ji _ _) (fun h => qd U qfn U) U (qc ?_));refine ist (st_g U U U (ji _ _) (fun h => qg U ty3 (gd h U)) U (qc ?_));refine ist (st_g U U U (ji _ _) (fun h => zl U (gd h U) (gd h U) (by (try dsimp only); unfold I64; omega)) U (qc ?_));refine ist (st_g U U U (ji _ _) (fun h => ze U (gd h U) (gd h U)) U (qc ?_));refine ist (st U U (zy U U U U) U (qc ?_));refine ist (st U U (qk U U) U (qc ?_));have hex : qvf k y (ofL y a1) m z = bif decide (z ≤ m.Moment) && decide (m.Moment < z + y.Length) then some ⟨(k : Nat), z, cntI (ofL y a1) z y.Length⟩ else none := rfl
     revert hex
     generalize (decide (z ≤ m.Moment) && decide (m.Moment < z + y.Length)) = c;intro hex;refine ist (st_g U U U (ji _ _) (fun h => qg U q8m U) U (qc ?_));refine ist (st_g U U U (ji _ _) (fun h => qg U ty3 U) U (qc ?_));refine ist (st_g U U U (ji _ _) (fun h => qk U U) U (qc ?_));refine ist (st_g U U U (ji _ _) (fun h => qg U q2w U) U (qc ?_));refine ist (st_g U U U (ji _ _) (fun h => qk U U) U (qc ?_));refine ist (st_g U U U (ji _ _) (fun h => qd U qfn U) U (qc ?_));refine ist (st_g U U U (ji _ _) (fun h => qg U ty3 (gd h U)) U (qc ?_));refine ist (st_g U U U (ji _ _) (fun h => qf U kE62 U (q4v (ofL y a1) z y.Length (qi9 hm y) (qos (qja hm y) (qi9 hm y) (by omega) (by omega) (by omega) hl1')) (qe (gd h U) (qe (gd h U) (qe (gd h U) qj)))) U (qc ?_));refine ist (st_g U U U (ji _ _) (fun h => jc U qvh U zct (z5 (gd h U) (z5 (gd h U) (z5 (gd h U) kx))) U) U (qc ?_))
     cases c with
     | false =>
      refine iy_g false U U U (ji _ _) U U (fun _ => ?_) (fun h => by cases h);refine ist (st_g (gb := false) (r := .g (G.bool false)) U U U (ji _ _) (fun h => by cases h) U (qc ?_));refine ist (st U U (qhd U U U) U (qc ?_));refine qon ?_;refine qdu false U (fun h4 => by cases h4) (fun h4 => ?_);refine qdt ?_;show (_, _) = (_, _);rw [List.filterMap_append]
      simp [hex]
     | true =>
      refine iy_g true U U U (ji _ _) U U (fun h => by cases h) (fun _ => ⟨U, U, ⟨(k : Nat), z, cntI (ofL y a1) z y.Length⟩, post.filterMap (qvf k y (ofL y a1) m) ++ (post0 ++ arL a1 m tl (k + 1)), (fun w M ρ v h => q47 h), ?_, fun b => ?_⟩)
      ·rw [← hR, hpost, hq, List.filterMap_append, List.filterMap_cons, hex]; simp
      refine ist (st_g (gb := true) U U U (ji _ _) (fun h => jn U U) U (qc ?_));refine ist (st U U (qhd U U U) U (qc ?_));refine qon ?_;refine qdu (!b) U (fun h4 => ?_) (fun h4 => ?_)
      ·refine qtc ?_;exact h4
      ·have hb : b = true := by simpa using h4
       subst hb;refine qdt ?_;show (_, _) = (_, _);rw [List.filterMap_append]
       simp [hex]
    ·refine js [.p, .p]<|st U U (zl U U U (by (try dsimp only); unfold I64; omega)) U<|st U U (qk U U) U<|qc ?_;refine ⟨U, n + 1, ⟨U, U, U, U, U, U, U, U, U, U, U, U, O⟩, U, ?_, ?_, ?_⟩
     ·show _ = (pre0 ++ arW a1 m k y (n + 1), false);rw [qtk a1 m k y hd1, List.append_assoc]
     ·show n + 1 ≤ 2; omega
     ·show 2 - (n + 1) < 2 - n; omega
    ·intro pre;exact .inl U
   ·replace h3 : (decide (((n : Nat) : Int) < 2)) = false := h3;replace h3 := decF h3
    obtain rfl : n = 2 := by omega
    refine qln<|js [.p, .p]<|st U U (zl U U U (by (try dsimp only); unfold I64; omega)) U<|st U U (qk U U) U<|qc ?_;refine ⟨U, (k + 1, tl, pre0 ++ arW a1 m k y 2), ⟨U, U, U, U, U, U, U, O⟩, U, U, ⟨hd, ?_⟩, ?_⟩
    ·rw [← hR]; simp
    ·simp
 ·replace h1 : (decide (((k : Nat) : Int) < (List.length a0 : Int))) = false := h1;obtain rfl := zu hd (decF h1);refine qln<|.inr ?_;rw [← hR]; simp [arL]
theorem qtl : ∀ {l : List Int} (k : Nat), qaa l k = 0 ↔ ∀ x ∈ l, x = 0
 | [], k => by simp [qaa]
 | y :: t, k => by
  rw [qaa]
  by_cases h : y = 0
  ·subst h; simp [qtl (l := t) (k + 1)]
  ·simp [h]
theorem jx {l : List Int} : vo l = 0 ↔ ∀ x ∈ l, x = 0 := qtl 0
theorem xk {b : Bool} {e : Int} (he : e ≠ 0) : xa b e = 0 ↔ b = false := by
 unfold xa; cases b <;> simp [he]
theorem wn {n lo hi : Int} : xl n lo hi = 0 ↔ lo ≤ n ∧ n ≤ hi := by
 unfold xl; rw [xk (by decide)]; simp
theorem qi6 {s : ByteArray} : qlj s = 0 ↔ s = (⟨#[]⟩ : ByteArray) ∨ s147 s = true := by
 unfold qlj; rw [xk (by decide)]
 by_cases h : s = (⟨#[]⟩ : ByteArray)
 ·simp [h]
 ·simp [h]
theorem qm1 {s : ByteArray} : qof s = 0 ↔ s = (⟨#[65]⟩ : ByteArray) ∨ s = (⟨#[68]⟩ : ByteArray) := by
 unfold qof; rw [xk (by decide)]
 by_cases h : s = (⟨#[65]⟩ : ByteArray)
 ·simp [h]
 ·simp [h]
theorem qyf {s : ByteArray} (h : s147 s = true) : s.size ≤ 24 := by
 unfold s147 at h
 cases hc : ((decide ((ByteArray.size s : Int) = 0)) || (decide (24 < (ByteArray.size s : Int)))) with
 | true => rw [hc] at h; cases h
 | false => simp at hc; omega
theorem qfj {a : S2062} : qbu a = 0 ↔ s147 a.Name = true ∧ mhas kindL a.Kind = true ∧ (a.Terminal = (⟨#[]⟩ : ByteArray) ∨ s147 a.Terminal = true) ∧ (1 ≤ a.Length ∧ a.Length ≤ 1440) ∧ (1 ≤ a.Step ∧ a.Step ≤ 1440) ∧ (0 ≤ a.fFrom ∧ a.fFrom ≤ 1439) ∧ (0 ≤ a.fTo ∧ a.fTo ≤ 1439) ∧ a.fFrom ≤ a.fTo ∧ s102 a.Period = 0 ∧ (0 ≤ a.Most ∧ a.Most ≤ 999999999) := by
 unfold qbu;rw [jx];simp only [List.mem_cons, List.not_mem_nil, or_false, forall_eq_or_imp, forall_eq, wn, qi6, xk (e := 8) (by decide), xk (e := 13) (by decide), xk (e := 11) (by decide), Bool.not_eq_false', decide_eq_false_iff_not, Int.not_lt]
theorem qx6 {a : S2062} (h : qbu a = 0) : LimOk a := by
 obtain ⟨_, h1, _, h2, h3, h4, h5, _, h6, h7⟩ := qfj.1 h;have h8 := vk _ h6;refine ⟨?_, h3.1, h3.2, h2.1, h2.2, h4.1, h4.2, h5.1, h5.2, h8.1, by omega, h7.1, h7.2⟩;unfold mhas at h1;unfold vj
 cases hq : mget kindL a.Kind with
 | none => rw [hq] at h1; cases h1
 | some v =>
  have : a.Kind = (⟨#[65]⟩ : ByteArray) ∨ a.Kind = (⟨#[68]⟩ : ByteArray) ∨ a.Kind = (⟨#[84]⟩ : ByteArray) := by
   have := qou hq;simp only [kindL, List.mem_cons, Prod.mk.injEq, List.not_mem_nil, or_false] at this
   rcases this with h | h | h
   ·exact .inl h.1
   ·exact .inr (.inl h.1)
   ·exact .inr (.inr h.1)
  have := qqg.2 this;unfold vj at this;rw [hq] at this;exact this
theorem qlu : ∀ {all t : List S2062} {k : Nat}, qbm all t k = 0 → ∀ x ∈ t, qbu x = 0
 | all, [], k, _, x, hx => by cases hx
 | all, y :: t, k, h, x, hx => by
  rw [qbm] at h
  by_cases hc : vo [(qbu y), (xa (decide (0 ≤ (qk6 (List.take (Int.toNat ((k : Nat) : Int)) all) y.Name))) 9)] = 0
  ·rw [decide_eq_false (by simpa using hc), cond_false] at h
   rcases List.mem_cons.1 hx with rfl | hx
   ·exact jx.1 hc _ (by simp)
   ·exact qlu h x hx
  ·rw [decide_eq_true hc, cond_true] at h;exact absurd h hc
theorem qow {a0 : List S2062} (h : qbv a0 = 0) : a0.length ≤ 32 ∧ ∀ x ∈ a0, LimOk x := by
 unfold qbv at h
 by_cases hc : 32 < (List.length a0 : Int)
 ·rw [decide_eq_true hc, cond_true] at h; cases h
 ·rw [decide_eq_false hc, cond_false] at h;exact ⟨by omega, fun x hx => qx6 (qlu h x hx)⟩
structure MvOk (m : S1079) : Prop where
 m0 : 0 ≤ m.Moment
 m1 : m.Moment ≤ 143999999
 k : m.Kind = (⟨#[65]⟩ : ByteArray) ∨ m.Kind = (⟨#[68]⟩ : ByteArray)
 t : m.Terminal = (⟨#[]⟩ : ByteArray) ∨ s147 m.Terminal = true
 s0 : 0 ≤ m.Seats
 s1 : m.Seats ≤ 999
 z0 : 0 ≤ m.Size
 z1 : m.Size ≤ 9
 n0 : 0 ≤ m.Noise
 n1 : m.Noise ≤ 99
 nm : s147 m.Name = true
theorem qm2 {a b c : Int} : qog a b c = 0 ↔ (0 ≤ a ∧ a ≤ 999) ∧ (0 ≤ b ∧ b ≤ 9) ∧ (0 ≤ c ∧ c ≤ 99) := by
 unfold qog;rw [jx];simp only [List.mem_cons, List.not_mem_nil, or_false, forall_eq_or_imp, forall_eq, wn]
theorem qyg {m : S1079} : qd5 m = 0 ↔ MvOk m := by
 unfold qd5;rw [jx];simp only [List.mem_cons, List.not_mem_nil, or_false, forall_eq_or_imp, forall_eq, wn, qm1, qi6, qm2, xk (e := 8) (by decide), Bool.not_eq_false'];exact ⟨fun ⟨h1, h2, h3, ⟨h4, h5, h6⟩, h7⟩ => ⟨h1.1, h1.2, h2, h3, h4.1, h4.2, h5.1, h5.2, h6.1, h6.2, h7⟩, fun h => ⟨⟨h.m0, h.m1⟩, h.k, h.t, ⟨⟨h.s0, h.s1⟩, ⟨h.z0, h.z1⟩, ⟨h.n0, h.n1⟩⟩, h.nm⟩⟩
def ascM : Option Int → List S1079 → Prop
 | _, [] => True
 | p, y :: t => (∀ x, p = some x → x ≤ y.Moment) ∧ ascM (some y.Moment) t
theorem qtm : ∀ {t : List S1079} {x : Int}, ascM (some x) t → ∀ y ∈ t, x ≤ y.Moment
 | [], _, _, y, hy => by cases hy
 | z :: t, x, h, y, hy => by
  rcases List.mem_cons.1 hy with rfl | hy
  ·exact h.1 x U
  ·exact Int.le_trans (h.1 x U) (qtm h.2 y hy)
theorem qtn : ∀ {t : List S1079} {p : Option Int}, ascM p t → (t.map S1079.Moment).Pairwise (· ≤ ·)
 | [], _, _ => .nil
 | y :: t, p, h => by
  rw [List.map_cons, List.pairwise_cons]
  exact ⟨fun z hz => by
   obtain ⟨m, hm, rfl⟩ := List.mem_map.1 hz
   exact qtm h.2 m hm, qtn h.2⟩
theorem qto : ∀ {t : List S1079} {p : Option Int}, (∀ x, p = some x → ∀ y ∈ t, x ≤ y.Moment) → (t.map S1079.Moment).Pairwise (· ≤ ·) → ascM p t
 | [], _, _, _ => trivial
 | y :: t, p, h, hs => by
  rw [List.map_cons, List.pairwise_cons] at hs;exact ⟨fun x hx => h x hx y List.mem_cons_self, qto (fun x hx z hz => by cases hx; exact hs.1 _ (List.mem_map_of_mem hz)) hs.2⟩
theorem q2y : ∀ (t pre : List S1079), (pre ++ t).length ≤ 30000 → (qab (pre ++ t) t pre.length = some 0 ↔ (∀ m ∈ t, MvOk m) ∧ ascM (pre.getLast?.map S1079.Moment) t)
 | [], pre, _ => by simp [qab, ascM]
 | y :: t, pre, hl => by
  rw [qab];have ih := q2y t (pre ++ [y]) (by simpa using hl)
  have e1 : pre ++ [y] ++ t = pre ++ y :: t := by simp
  have e2 : (pre ++ [y]).length = pre.length + 1 := by simp
  have e3 : (pre ++ [y]).getLast? = some y := by simp
  rw [e1, e2, e3] at ih;have key : ∀ (y5 : S1079) (b : Bool), (b = true ↔ (0 < pre.length ∧ y.Moment < y5.Moment)) → (0 < pre.length → pre.getLast? = some y5) →
    ((bif decide ((vo [(qd5 y), (xa b 11)]) ≠ 0) then some (vo [(qd5 y), (xa b 11)]) else qab (pre ++ y :: t) t (pre.length + 1)) = some 0 ↔ (∀ m ∈ y :: t, MvOk m) ∧ ascM (pre.getLast?.map S1079.Moment) (y :: t)) := by
   intro y5 b hb hg
   have hz : vo [(qd5 y), (xa b 11)] = 0 ↔ MvOk y ∧ b = false := by
    rw [jx];simp only [List.mem_cons, List.not_mem_nil, or_false, forall_eq_or_imp, forall_eq, qyg, xk (e := 11) (by decide)]
   have hasc : (∀ x, pre.getLast?.map S1079.Moment = some x → x ≤ y.Moment) ↔ b = false := by
    by_cases hp : 0 < pre.length
    ·rw [hg hp];simp only [Option.map_some, Option.some.injEq, forall_eq'];rw [← Bool.not_eq_true, hb]
     constructor
     ·intro h k; omega
     ·intro h; have := fun q => h ⟨hp, q⟩; omega
    ·have : pre = [] := by
      cases pre with
      | nil => rfl
      | cons => simp at hp
     subst this;rw [← Bool.not_eq_true, hb]
     simp
   by_cases hc : vo [(qd5 y), (xa b 11)] = 0
   ·rw [decide_eq_false (by simpa using hc), cond_false, ih];obtain ⟨c1, c2⟩ := hz.1 hc;simp only [List.mem_cons, forall_eq_or_imp, ascM, hasc, c1, c2, true_and, Option.map_some]
   ·rw [decide_eq_true hc, cond_true]
    constructor
    ·intro h; exact absurd (Option.some.inj h) hc
    ·rintro ⟨h1, h2⟩;exact absurd (hz.2 ⟨h1 y List.mem_cons_self, hasc.1 h2.1⟩) hc
  by_cases hp : 0 < pre.length
  ·have hlen : pre.length ≤ 30000 := by simp at hl; omega
   have e : max 0 (IntKind.i64.wrap (((pre.length : Nat) : Int) - 1)) = ((pre.length - 1 : Nat) : Int) := by
    rw [wrap_i64 (by unfold I64; omega)]; omega
   rw [decide_eq_true (by omega : (0 : Int) < ((pre.length : Nat) : Int)), cond_true, e, qyd (by simp; omega), List.getElem_append_left (by omega : pre.length - 1 < pre.length)];simp only [qz, Bool.true_and];refine key (pre[pre.length - 1]'(by omega)) _ ?_ (fun _ => ?_)
   ·simp [hp]
   ·rw [List.getLast?_eq_getElem?, List.getElem?_eq_getElem (by omega)]
  ·have e0 : pre.length = 0 := by omega
   rw [decide_eq_false (by omega : ¬ (0 : Int) < ((pre.length : Nat) : Int)), cond_false];simp only [qz, Bool.false_and];exact key default false (by simp; omega) (fun h => absurd h hp)
theorem qhp {l : List S1079} (hl : l.length ≤ 30000) : qal l = some 0 ↔ (∀ m ∈ l, MvOk m) ∧ (l.map S1079.Moment).Pairwise (· ≤ ·) := by
 unfold qal;rw [decide_eq_false (by omega), cond_false];have := q2y l [] (by simpa using hl);rw [show qab l l 0 = qab ([] ++ l) l ([] : List S1079).length from rfl, this]
 constructor
 ·rintro ⟨h1, h2⟩; exact ⟨h1, qtn h2⟩
 ·rintro ⟨h1, h2⟩; exact ⟨h1, qto (fun x hx => by cases hx) h2⟩
theorem q8d {l : List S1079} (hl : l.length ≤ 1000) (h : qal l = some 0) : MsOk l ∧ ∀ m ∈ l, MvOk m := by
 obtain ⟨h1, h2⟩ := (qhp (by omega)).1 h;refine ⟨⟨hl, fun m hm => ?_, h2⟩, h1⟩;have := h1 m hm;refine ⟨?_, ?_⟩
 ·rcases this.k with h | h <;> rw [h] <;> decide
 ·rcases this.t with h | h
  ·rw [h]; decide
  ·have := qyf h; omega
theorem zcy {g : GL} (a0 : List S2062) (a1 : List S1079) (m : S1079) : Con (EG g) 47 [G.sl 11 (List.map S2062.c a0), G.sl 7 (List.map S1079.c a1), G.agg (S1079.c m)]
  (G.fn (.func 101) [] [G.ref [G.sl 11 (List.map S2062.c a0)], G.ref (S1079.c m), G.ref [G.sl 7 (List.map S1079.c a1)]]) := by
 refine qm Tryz.func47 U U fun w0 M0 => ?_;refine qb<|qa [.p, .p, .p, .p]<|st U U (zg U U) U<|st U U (zg U U) U<|st U U (zg U U) U<|st U U (je U U) U<|qc<|qb<|qa [.p, .p]<|st U U (w6 U U U) U<|st U U (je U U) U<|qc<|qo ?_;exact zb U (rv_g U)
def qi7 (a0 : List S2062) (a1 : List S1079) : Option Int :=
 qz (qal a1) fun r1 => some (vo [(qbv a0), r1])
theorem q4y {g : GL} (a0 : List S2062) (a1 : List S1079) {R : Int}   (hR : qi7 a0 a1 = some R) : Con (EG g) 41 [G.sl 11 (List.map S2062.c a0), G.sl 7 (List.map S1079.c a1)] (G.int R) := by
 unfold qi7 at hR;refine qm Tryz.func41 U U fun w0 M0 => ?_;refine zp (f := S2062.c) (l := a0) 0 U fun hla0 => ?_;refine zp (f := S1079.c) (l := a1) 1 U fun hla1 => ?_;refine qb<|qa [.p]<|sa U U<|qc<|qb ?_;obtain ⟨r1, br1, hR⟩ := qi hR;refine qa [.p, .p, .p, .p, .p, .p, .p]<|sm U U<|su (qf U q8r U (q7v a0) (qe U qj)) U<|sm U U<|su (qf U q04 U (q0v a1 br1) (qe U qj)) U ?_;refine su (qt U Tryz.underlying170 ty37 z37 U (qv U (qv U jh)) U (by simp []) (by decide)) U ?_;refine su (qf U qj3 U (qj0 [(qbv a0), r1]) (qe U qj)) U<|sa U U<|qc<|qo ?_;obtain rfl := Option.some.inj hR;exact zb U (rv_g U)
theorem q5a {a0 : List S2062} {a1 : List S1079} {r : Int} (h : qi7 a0 a1 = some r) : ∃ r1, qal a1 = some r1 ∧ r = vo [qbv a0, r1] := by
 unfold qi7 at h
 cases hq : qal a1 with
 | none => rw [hq] at h; cases h
 | some r1 => rw [hq] at h; exact ⟨r1, rfl, (Option.some.inj h).symm⟩
theorem qr1 {a0 : List S2062} {a1 : List S1079} {r : Int} (hl : a1.length ≤ 1000) (h : qi7 a0 a1 = some r) (h1 : ¬ r ≠ 0) : a0.length ≤ 32 ∧ (∀ x ∈ a0, LimOk x) ∧ MsOk a1 ∧ ∀ m ∈ a1, MvOk m := by
 obtain ⟨r1, h2, rfl⟩ := q5a h;have h3 := jx.1 (Decidable.not_not.1 h1);obtain ⟨h4, h5⟩ := qow (h3 (qbv a0) (by simp));have h6 : r1 = 0 := h3 r1 (by simp);subst h6;obtain ⟨h7, h8⟩ := q8d hl h2;exact ⟨h4, h5, h7, h8⟩
theorem q07 {a0 : List S2062} {a1 : List S1079} {a2 : S1079} {r : Int} (hl : a1.length ≤ 1000) (h : qi7 a0 a1 = some r) (h1 : ¬ vo [r, qd5 a2] ≠ 0) : a0.length ≤ 32 ∧ (∀ x ∈ a0, LimOk x) ∧ MsOk a1 ∧ (∀ m ∈ a1, MvOk m) ∧ MvOk a2 := by
 have h3 := jx.1 (Decidable.not_not.1 h1);have h4 : r = 0 := h3 r (by simp);obtain ⟨h5, h6, h7, h8⟩ := qr1 hl h (by rw [h4]; simp);exact ⟨h5, h6, h7, h8, qyg.1 (h3 (qd5 a2) (by simp))⟩
def q08  : List S2068 → Int → Int → Int → Int → Option (S2068 × Int)
 | [], x2, x3, x4, x5 => some ((S2068.mk 0 0 0), 7)
 | y6 :: t7, x2, x3, x4, x5 => some (y6, 0)
def q8s (a0 : List S2062) (a1 : List S1079) : Option (S2068 × Int) :=
 qz (qi7 a0 a1) fun r1 => (bif decide (r1 ≠ 0) then some ((S2068.mk 0 0 0), r1) else q08 (exL a1 a0 0) 0 0 0 0)
def qee (a0 : List S2062) : List S2068 → Int → Option Int
 | [], x1 => some x1
 | y2 :: t3, x1 => qz (ixO a0 y2.Limit) fun y4 => qee a0 t3 (min x1 (max 0 (IntKind.i64.wrap (y4.Most - y2.Count))))
def q5b (a0 : List S2062) (a1 : List S1079) (a2 : S1079) : Option Int :=
 qee a0 (arL a1 a2 a0 0) 999999999
theorem zcz {g : GL} (a0 : List S2062) (a1 : List S1079) (a2 : S1079) {R : Int}  (hl0 : a0.length ≤ 1000) (hlim : ∀ x ∈ a0, LimOk x) (hms : MsOk a1) (hm0 : 0 ≤ a2.Moment) (hm1 : a2.Moment ≤ 143999999) (hR : q5b a0 a1 a2 = some R) : Con (EG g) 43 [G.sl 11 (List.map S2062.c a0), G.sl 7 (List.map S1079.c a1), G.agg (S1079.c a2)] (G.int R) := by
 unfold q5b at hR;refine qfm Tryz.func43 U U (wa _) fun w0 M0 => ?_;refine zp (f := S2062.c) (l := a0) 0 U fun hla0 => ?_;refine zp (f := S1079.c) (l := a1) 1 U fun hla1 => ?_;refine qb<|qa [.p, .p, .p]<|su (zg U U) U<|su (zg U U) U<|sa U U<|qc<|qb<|qa [.w, .w]<|sw (zh 7 U z3 U U) U<|z7 U U (qw (tv := .g (G.int 999999999)) U ty3 U U U U U)<|qc<|qb<|qb<|qa [.p, .p, .p, .p]<|su (qg U q2z U) U<|sm U U<|su (qp U jd U U U) U<|su (qf U zc0 U (zcy a0 a1 a2) (qe U (qe U (qe U qj)))) U<|qc<|qq ?_;refine qjb (α := S2068) (γ := Int) (enc := winE) (l := [(3, .g (G.ref [G.sl 11 (List.map S2062.c a0)])), (7, .ptr 7 0), (12, .g (G.fn (.func 101) [] [G.ref [G.sl 11 (List.map S2062.c a0)], G.ref (S1079.c a2), G.ref [G.sl 7 (List.map S1079.c a1)]]))]) (arL a1 a2 a0 0) (fun g => [(7, .box [.g (G.int g)])]) (fun tl_ g => qee a0 tl_ g = some R) 999999999 (fun g y2 => (upd 8 (.ptr 8 0) (upd 13 (.g (winG y2)) (xj [(3, .g (G.ref [G.sl 11 (List.map S2062.c a0)])), (7, .ptr 7 0), (12, .g (G.fn (.func 101) [] [G.ref [G.sl 11 (List.map S2062.c a0)], G.ref (S1079.c a2), G.ref [G.sl 7 (List.map S1079.c a1)]]))])), (8, .box [.g (G.int y2.Limit), .g (G.int y2.Begin), .g (G.int y2.Count)]) :: (8, .box [.g (G.int 0), .g (G.int 0), .g (G.int 0)]) :: [(7, .box [.g (G.int g)])])) U ⟨U, U, U, O⟩ ⟨U, O⟩ U U zc1 (qvg a0 a1 a2 hl0 hlim hms hm0 hm1) winG q8p (by exact hR) U (fun _ => U) (fun _ => U) ?_ (fun _ _ => U) ?_ ?_
 ·rintro y2 x1 lp_ w1_ M1_ x1_;refine qa [.w, .w]<|sw (zh 8 U qvh U U) U<|z7 U U (qw (tv := .g (G.agg (S2068.c y2))) U qlv U U U U U)<|qc ?_;exact ⟨U, U⟩
 ·rintro y2 t3 x1 hx1 hR lp_ w1_ M1_ x1_;replace hR : qee a0 (y2 :: t3) x1 = some R := hR;rw [qee] at hR;(try dsimp only at hR);refine qq ?_;obtain ⟨y4, by4, hR⟩ := qi hR;refine zt [.r, .p, .p, .r, .p, .p, .p, .p, .r, .p, .p, .p, .w] (by kernel_rfl)<|sr (zz U ty3 U U U) U<|su (qg U q2z U) U<|su (zo U q09 U) U<|sr (zz U ty3 U U U) U<|su (z4 (f := S2062.c) (l := a0) (a := y4) U Tryz.underlying22 kq U U (jl by4) (zk by4)) U<|su (qd U qom U) U<|su (qg U ty3 U) U<|su (zo U qkl U) U<|sr (zz U ty3 U U U) U<|su (ku U U U) U<|su (qix U U U) U<|su (qrr U U U) U<|z7 U U (qw (tv := .g (G.int (min x1 (max 0 (IntKind.i64.wrap (y4.Most - y2.Count)))))) U ty3 U U U U U)<|qc ?_;exact ⟨min x1 (max 0 (IntKind.i64.wrap (y4.Most - y2.Count))), hR, ⟨U, O⟩⟩
 ·rintro x1 hR;replace hR : qee a0 [] x1 = some R := hR;rw [qee] at hR;(try dsimp only at hR);refine qb<|qa [.r, .p]<|sr (zz U ty3 U U U) U<|sa U U<|qc<|qo ?_;obtain rfl := Option.some.inj hR;exact zb U (rv_g U)
def qud (a0 : List S2062) (a1 : List S1079) (a2 : S1079) : Option (Int × Int) :=
 qz (qi7 a0 a1) fun r1 => (bif decide ((vo [r1, (qd5 a2)]) ≠ 0) then some (0, (vo [r1, (qd5 a2)])) else qz (q5b a0 a1 a2) fun r2 => some (r2, 0))
theorem q6y {g : GL} (a0 : List S2062) (a1 : List S1079) (a2 : S1079) {R : Int × Int}  (hb : a1.length ≤ 1000) (hR : qud a0 a1 a2 = some R) : Con (EG g) 13 [G.sl 11 (List.map S2062.c a0), G.sl 7 (List.map S1079.c a1), G.agg (S1079.c a2)] (G.tup [G.int R.1, G.int R.2]) := by
 unfold qud at hR;refine qm Tryz.func13 U U fun w0 M0 => ?_;refine zp (f := S2062.c) (l := a0) 0 U fun hla0 => ?_;refine zp (f := S1079.c) (l := a1) 1 U fun hla1 => ?_;refine qb<|qa [.p, .p, .p]<|su (zg U U) U<|sa U U<|sa U U<|qc<|qb<|qb ?_;obtain ⟨r1, br1, hR⟩ := qi hR;refine zt [.p, .p, .p, .p, .p, .p, .p, .p] (by kernel_rfl)<|sm U U<|sm U U<|su (qf U q4x U (q4y a0 a1 br1) (qe U (qe U qj))) U<|su (qp U jd U U U) U<|su (qf U q7o U (q7n a2) (qe U qj)) U ?_;refine su (qt U Tryz.underlying170 ty37 z37 U (qv U (qv U jh)) U (by simp []) (by decide)) U ?_;refine su (qf U qj3 U (qj0 [r1, (qd5 a2)]) (qe U qj)) U<|sa U U<|qc<|qb<|qa [.p, .p]<|sm U U<|su (zx U U U) U<|qc ?_;refine ql _ U (fun h1 => ?_) (fun h1 => ?_)
 ·replace h1 : (decide ((vo [r1, (qd5 a2)]) ≠ 0)) = true := h1;replace hR := zm hR h1;(try simp only [bB] at h1);refine qb<|qa [.p, .p, .p]<|sm U U<|sa U U<|sa U U<|qc<|qo ?_;obtain rfl := Option.some.inj hR;exact resN U ⟨rv_g U, rv_g U, O⟩ (by simp)
 ·replace h1 : (decide ((vo [r1, (qd5 a2)]) ≠ 0)) = false := h1;replace hR := zn hR h1;(try simp only [bB] at h1);obtain ⟨hlen, hlim, hms, hmv, hmo⟩ := q07 hb br1 h1;refine qn<|qb ?_;obtain ⟨r2, br2, hR⟩ := qi hR;refine qa [.p, .p, .p, .p, .p, .p]<|sm U U<|sm U U<|su (qp U jd U U U) U<|su (qf U zc2 U (zcz a0 a1 a2 (by omega) hlim hms hmo.m0 hmo.m1 br2) (qe U (qe U (qe U qj)))) U<|sa U U<|sa U U<|qc<|qo ?_;obtain rfl := Option.some.inj hR;exact resN U ⟨rv_g U, rv_g U, O⟩ (by simp)
def qjc  : List Int → Nat → Int
 | [], k2 => 0
 | y3 :: t4, k2 => (bif decide (y3 ≠ 0) then y3 else qjc  t4 (k2 + 1))
def s176 (a0 : List Int) : Int :=
 qjc a0 0
theorem c176 {g : GL} (a0 : List Int)    : Con (EG g) 142 [G.sl 1 (List.map cInt a0)] (G.int (s176 a0)) := by
 generalize hR : s176 a0 = R;unfold s176 at hR;refine qm Tryz.func142 U U fun w0 M0 => ?_;refine zp (f := cInt) (l := a0) 0 U fun hla0 => ?_;refine qb<|qa [.p]<|sa U U<|qc<|qb<|qa [.p]<|sa U U<|qc<|qb<|qb<|qa [.p, .p, .p]<|sm U U<|su (qy (f := cInt) (l := a0) U Tryz.underlying38 U) U<|sm U U<|qc<|qq<|za (γ := Nat × (List Int)) (fun g => ([(3, .g (G.int 0)), (6, .g (G.sl 1 (List.map cInt a0))), (7, .g (G.int (List.length a0 : Int))), (8, .g (G.int ((g.1 : Nat) : Int)))], [])) (fun g => a0.drop g.1 = g.2 ∧ qjc  g.2 g.1 = R) (fun g => List.length g.2) ⟨U, (0, a0), jA, O, U, ⟨U, (by exact hR)⟩, O⟩ ?_
 ·rintro ⟨k2, t4⟩ ⟨hd, hR⟩;replace hd : a0.drop k2 = t4 := hd;replace hR : qjc  t4 k2 = R := hR;refine qb<|qa [.p]<|su (ze U U U) U<|qc ?_;refine zp (f := cInt) (l := a0) 6 U fun hlz1 => ?_;refine qb ?_;refine ql _ U (fun h1 => ?_) (fun h1 => ?_)
  ·replace h1 : (decide (((k2 : Nat) : Int) < (List.length a0 : Int))) = true := h1;obtain ⟨y3, t4, rfl, hx1, hd⟩ := zq hd (decT h1);replace h1 := decT h1;rw [qjc] at hR;(try dsimp only at hR);refine qn<|qb<|qq<|qb<|qa [.p, .p, .p]<|su (z4 (f := cInt) (l := a0) (a := y3) U Tryz.underlying38 ty3 U U (Int.natCast_nonneg _) hx1) U<|su (qg U ty3 U) U<|sa U U<|qc<|qb<|qa [.p, .p, .p]<|sm U U<|sm U U<|su (zx U U U) U<|qc ?_;refine ql _ U (fun h3 => ?_) (fun h3 => ?_)
   ·replace hR := zm hR h3;refine qb<|qa [.p, .p]<|sm U U<|sa U U<|qc<|qo ?_;subst hR;exact zb U (rv_g U)
   ·replace h3 : (decide (y3 ≠ 0)) = false := h3;replace hR := zn hR h3;(try simp only [bB] at h3);refine qn<|qa [.p, .p]<|su (zl U U U iE) U<|sm U U<|qc ?_;exact ⟨U, (k2 + 1, t4), jA, O, U, ⟨hd, hR⟩, by simp⟩
  ·replace h1 : (decide (((k2 : Nat) : Int) < (List.length a0 : Int))) = false := h1;obtain rfl := zu hd (decF h1);rw [qjc] at hR;refine zr<|qb<|qa [.p, .p]<|sm U U<|sa U U<|qc<|qo ?_;subst hR;exact zb U (rv_g U)
def qqq (a0 : S1079) (a1 : S1079) : Int :=
 (s176 [(s167 a0.Moment a1.Moment), (s133 a0.Kind a1.Kind), (s133 a0.Name a1.Name)])
theorem zc3 {g : GL} (a0 : S1079) (a1 : S1079)    : Con (EG g) 150 [G.agg (S1079.c a0), G.agg (S1079.c a1)] (G.int (qqq a0 a1)) := by
 generalize hR : qqq a0 a1 = R;unfold qqq at hR;refine qm Tryz.func150 U U fun w0 M0 => ?_;refine qb<|qa [.p, .p, .p]<|su (zg U U) U<|su (zg U U) U<|sa U U<|qc<|qb<|zt [.p, .p, .p, .p, .p, .p, .p, .p, .p, .p, .p, .p, .p, .p, .p, .p, .p, .p] (by kernel_rfl)<|su (qd U qaz U) U<|su (qg U ty3 U) U<|su (qd U qaz U) U<|su (qg U ty3 U) U<|su (qf U K167 U (c167 a0.Moment a1.Moment) (qe U (qe U qj))) U<|su (qd U qea U) U<|su (qg U ty9 U) U<|su (qd U qea U) U<|su (qg U ty9 U) U<|su (qf U K133 U (c133 a0.Kind a1.Kind) (qe U (qe U qj))) U<|su (qd U qoi U) U<|su (qg U ty9 U) U<|su (qd U qoi U) U<|su (qg U ty9 U) U<|su (qf U K133 U (c133 a0.Name a1.Name) (qe U (qe U qj))) U ?_;refine su (qt U Tryz.underlying38 ty3 z3 U (qv U (qv U (qv U jh))) U (by simp []) (by decide)) U ?_;refine su (qf U K176 U (c176 [(s167 a0.Moment a1.Moment), (s133 a0.Kind a1.Kind), (s133 a0.Name a1.Name)]) (qe U qj)) U<|sa U U<|qc<|qo ?_;subst hR;exact zb U (rv_g U)
def s69 (a0 : S45) : (List Int) × Int :=
 (bif decide ((s102 a0) ≠ 0) then ([], (s102 a0)) else (dayL a0.Days (a0.fTo + 1 - a0.fFrom).toNat a0.fFrom, 0))
theorem c69 {g : GL} (a0 : S45)    : Con (EG g) 127 [G.agg (S45.c a0)] (G.tup [G.slX 1 (List.map cInt ((s69 a0)).1), G.int ((s69 a0)).2]) := by
 generalize hR : s69 a0 = R;unfold s69 at hR;refine qm Tryz.func127 U U fun w0 M0 => ?_;refine qb<|qa [.p, .p, .p]<|su (zg U U) U<|sa U U<|sa U U<|qc<|qb<|qb<|qa [.p, .p, .p]<|su (qp U ty46 U U U) U<|su (qf U K102 U (c102 a0) (qe U qj)) U<|sa U U<|qc<|qb<|qa [.p, .p]<|sm U U<|su (zx U U U) U<|qc ?_;refine ql _ U (fun h1 => ?_) (fun h1 => ?_)
 ·replace h1 : (decide ((s102 a0) ≠ 0)) = true := h1;replace hR := zm hR h1;(try simp only [bB] at h1);refine qb<|qa [.p, .p, .p]<|sm U U<|sa U U<|sa U U<|qc<|qo ?_;subst hR;exact resN U ⟨qiu U (q5c _), rv_g U, O⟩ (by simp)
 ·replace h1 : (decide ((s102 a0) ≠ 0)) = false := h1;replace hR := zn hR h1;(try simp only [bB] at h1);have hp := vk a0 (by simpa using h1);refine qn<|qb<|qa [.p, .p, .p, .p, .p]<|su (qp U ty46 U U U) U<|su (qf U K136 U (c136 a0.fFrom a0.fTo a0.Days) (qe U qj)) U<|su (qf U K135 U (zc4 a0.fFrom a0.fTo a0.Days hp.1 (by omega)) (qe U (qe U qj))) U<|sa U U<|sa U U<|qc<|qo ?_;subst hR;exact resN U ⟨rv_g U, rv_g U, O⟩ (by simp)
theorem c69' {g : GL} (a0 : S45) : Con (EG g) 127 [G.agg (S45.c a0)] (G.tup [G.sl 1 (List.map cInt ((s69 a0)).1), G.int ((s69 a0)).2]) := by
 intro w M vs hM hgl hv;refine (c69 a0 w M vs hM hgl hv).mono ?_;rintro e w' ⟨v, h1, h2, us, h3, h4⟩;refine ⟨v, h1, h2, us, h3, ?_⟩
 match us, h4 with
 | [u1, u2], ⟨k1, k2, k3⟩ => exact ⟨q8t k1, k2, k3⟩
theorem qf6 : ∀ (l : List Int) (k : Nat), qaa l k = 0 ↔ ∀ x ∈ l, x = 0
 | [], k => by simp [qaa]
 | y :: t, k => by
  rw [qaa]
  by_cases h : y = 0
  ·rw [decide_eq_false (by simpa using h), cond_false, qf6 t]; simp [h]
  ·rw [decide_eq_true h, cond_true]; simp [h]
theorem qr7 (l : List Int) : vo l = 0 ↔ ∀ x ∈ l, x = 0 := qf6 l 0
theorem qx2 {a0 : S115} (h : ¬ qbz a0 ≠ 0) : s102 a0.Period = 0 := (qr7 _).1 (Decidable.not_not.1 h) _ (by simp)
theorem qk5 {p : S45} (h : s102 p = 0) : s69 p = (dayL p.Days (p.fTo + 1 - p.fFrom).toNat p.fFrom, 0) := by unfold s69; rw [h]; rfl
theorem qox {p : S45} (h : s102 p = 0) : ((s69 p).1).length ≤ 401 := by
 rw [qk5 h];obtain ⟨q1, q2, q3, q4, q5, q6⟩ := vk p h;have := qho p.Days (p.fTo + 1 - p.fFrom).toNat p.fFrom;show (dayL p.Days (p.fTo + 1 - p.fFrom).toNat p.fFrom).length ≤ 401
 omega
def qcj (a0 : S115) : List Int → Nat → (List S1079) → List S1079
 | [], k3, x1 => x1
 | y4 :: t5, k3, x1 => qcj a0 t5 (k3 + 1) (x1 ++ [(S1079.mk (IntKind.i64.wrap ((IntKind.i64.wrap (1440 * y4)) + a0.Minute)) a0.Kind a0.Terminal a0.Seats a0.Size a0.Noise a0.Name)])
def quh (a0 : S115) : List S1079 :=
 qcj a0 ((s69 a0.Period).1) 0 []
set_option maxHeartbeats 4000000 in
theorem zc5 {g : GL} (a0 : S115)  (hp : s102 a0.Period = 0)  : Con (EG g) 147 [G.agg (S115.c a0)] (G.sl 7 (List.map S1079.c (quh a0))) := by
 generalize hR : quh a0 = R;unfold quh at hR;refine qm Tryz.func147 U U fun w0 M0 => ?_;have hl := qox hp;refine qb<|qa [.p, .w]<|su (zg U U) U<|sw (kh 2 53 7 U U U) U<|qc<|qb<|qa [.p, .p, .p, .p, .p, .p, .p, .p]<|su (qd U wd U) U<|su (qp U ty46 U U U) U<|su (qf U K69 U (c69' a0.Period) (qe U qj)) U<|sm U U<|su (qu U U U) U<|su (qu U U U) U<|sa U U<|sa U U<|qc<|qb<|qa [.w]<|sw (kh 5 53 7 U U U) U<|qc<|qb<|qb<|qa [.p, .p, .p]<|sm U U<|su (qy (f := cInt) (l := (s69 a0.Period).1) U Tryz.underlying38 U) U<|sm U U<|qc<|qq<|za (γ := Nat × (List Int) × (List S1079)) (fun g => ([(1, .g (G.ref (S115.c a0))), (5, .osl 5 7 0 (List.length g.2.2)), (14, .g (G.sl 1 (List.map cInt ((s69 a0.Period).1)))), (15, .g (G.int (List.length ((s69 a0.Period).1) : Int))), (16, .g (G.int ((g.1 : Nat) : Int)))], [(5, .arr 53 7 (List.map S1079.c g.2.2))])) (fun g => g.2.2.length ≤ g.1 ∧ g.1 ≤ ((s69 a0.Period).1).length ∧ g.2.2.length ≤ g.1 ∧ ((s69 a0.Period).1).drop g.1 = g.2.1 ∧ qcj a0 g.2.1 g.1 g.2.2 = R) (fun g => List.length g.2.1) ⟨U, (0, ((s69 a0.Period).1), []), jA, ⟨U, O⟩, U, ⟨iH, iH, iH, U, (by exact hR)⟩, O⟩ ?_
 ·rintro ⟨k3, t5, x1⟩ ⟨iv1_0, iv1_1, iv1_2, hd, hR⟩;replace hd : ((s69 a0.Period).1).drop k3 = t5 := hd;replace hR : qcj a0 t5 k3 x1 = R := hR;replace iv1_0 : x1.length ≤ k3 := iv1_0;replace iv1_1 : k3 ≤ ((s69 a0.Period).1).length := iv1_1;replace iv1_2 : x1.length ≤ k3 := iv1_2;refine qb<|qa [.p]<|su (ze U U U) U<|qc ?_;refine zp (f := cInt) (l := (s69 a0.Period).1) 14 U fun hlz1 => ?_;refine qb ?_;refine ql _ U (fun h1 => ?_) (fun h1 => ?_)
  ·replace h1 : (decide (((k3 : Nat) : Int) < (List.length ((s69 a0.Period).1) : Int))) = true := h1;obtain ⟨y4, t5, rfl, hx1, hd⟩ := zq hd (decT h1);replace h1 := decT h1;rw [qcj] at hR;(try dsimp only at hR);refine qn<|qb<|qq<|qb<|qa [.p, .p, .p]<|su (z4 (f := cInt) (l := (s69 a0.Period).1) (a := y4) U Tryz.underlying38 ty3 U U (Int.natCast_nonneg _) hx1) U<|su (qg U ty3 U) U<|sa U U<|qc<|qa [.p, .p, .p, .p, .p, .p, .p, .p, .p, .p, .p, .p, .p, .p, .p, .p, .p, .p, .p, .p, .k, .p]<|su (zd U U) U<|sm U U<|su (qdf U U U) U<|su (qd U qi1 U) U<|su (qg U ty3 U) U<|su (jo U U U) U<|su (qd U qe2 U) U<|su (qg U ty9 U) U<|su (qd U qgn U) U<|su (qg U ty9 U) U<|su (qd U qlk U) U<|su (qg U ty3 U) U<|su (qd U qll U) U<|su (qg U ty3 U) U<|su (qd U qh0 U) U<|su (qg U ty3 U) U<|su (qd U vh U) U<|su (qg U ty9 U) U<|su (jc U qny U qsq (z5 U (z5 U (z5 U (z5 U (z5 U (z5 U (z5 U kx))))))) U) U ?_;refine su (qt U Tryz.underlying48 jd qny U (qv U jh) U (by exact lens rfl) (by decide)) U ?_;refine st_k U U (ve (f := S1079.c) (out := x1) (new := [(S1079.mk (IntKind.i64.wrap ((IntKind.i64.wrap (1440 * y4)) + a0.Minute)) a0.Kind a0.Terminal a0.Seats a0.Size a0.Noise a0.Name)]) U qoq U U (wx U (wy (by decide) (by simp [S1079.c]))) (qgf U) (by simp; omega)) U ?_;refine su (zw U U) U<|qc<|qa [.p, .p]<|su (zl U U U iE) U<|sm U U<|qc ?_;exact ⟨U, (k3 + 1, t5, x1 ++ [(S1079.mk (IntKind.i64.wrap ((IntKind.i64.wrap (1440 * y4)) + a0.Minute)) a0.Kind a0.Terminal a0.Seats a0.Size a0.Noise a0.Name)]), jA, ⟨U, O⟩, U, ⟨iB, iB, iB, hd, hR⟩, by simp⟩
  ·replace h1 : (decide (((k3 : Nat) : Int) < (List.length ((s69 a0.Period).1) : Int))) = false := h1;obtain rfl := zu hd (decF h1);rw [qcj] at hR;refine zr<|qb<|qa [.p, .p]<|su (zd U U) U<|su (zw U U) U<|qc<|qo ?_;subst hR;exact zb U (qat U U)
def ql9 (a0 : S115) : (List S1079) × Int :=
 (bif decide ((qbz a0) ≠ 0) then ([], (qbz a0)) else ((quh a0), 0))
theorem zc6 {g : GL} (a0 : S115)    : Con (EG g) 93 [G.agg (S115.c a0)] (G.tup [G.sl 7 (List.map S1079.c ((ql9 a0).1)), G.int ((ql9 a0).2)]) := by
 generalize hR : ql9 a0 = R;unfold ql9 at hR;refine qm Tryz.func93 U U fun w0 M0 => ?_;refine qb<|qa [.p, .p, .p]<|su (zg U U) U<|sa U U<|sa U U<|qc<|qb<|qb<|qa [.p, .p, .p]<|su (qp U w5 U U U) U<|su (qf U q4z U (q4r a0) (qe U qj)) U<|sa U U<|qc<|qb<|qa [.p, .p]<|sm U U<|su (zx U U U) U<|qc ?_;refine ql _ U (fun h1 => ?_) (fun h1 => ?_)
 ·replace h1 : (decide ((qbz a0) ≠ 0)) = true := h1;replace hR := zm hR h1;(try simp only [bB] at h1);refine qb<|qa [.p, .p, .p]<|sm U U<|sa U U<|sa U U<|qc<|qo ?_;subst hR;exact resN U ⟨qiu U (qg8 _), rv_g U, O⟩ (by simp)
 ·replace h1 : (decide ((qbz a0) ≠ 0)) = false := h1;replace hR := zn hR h1;(try simp only [bB] at h1);have hp := qx2 h1;refine qn<|qb<|qa [.p, .p, .p, .p]<|su (qp rfl w5 rfl rfl rfl) rfl<|su (qf rfl zc7 rfl (zc5 a0 (by first | assumption | omega | (simp [qh]; done) | (simp [qh]; omega))) (qe rfl qj)) rfl<|sa rfl rfl<|sa rfl rfl<|qc<|qo ?_;subst hR;exact resN U ⟨rv_g U, rv_g U, O⟩ (by simp)
def qf1 (a0 : S45) : Int × Int :=
 ((List.length ((s69 a0).1) : Int), (s69 a0).2)
theorem q8u {g : GL} (a0 : S45)    : Con (EG g) 90 [G.agg (S45.c a0)] (G.tup [G.int ((qf1 a0).1), G.int ((qf1 a0).2)]) := by
 generalize hR : qf1 a0 = R;unfold qf1 at hR;refine qm Tryz.func90 U U fun w0 M0 => ?_;refine qb<|qa [.p, .p, .p]<|su (zg U U) U<|sa U U<|sa U U<|qc<|qb<|qa [.p, .p, .p, .p, .p, .p, .p]<|su (qp U ty46 U U U) U<|su (qf U K69 U (c69' a0) (qe U qj)) U<|sm U U<|su (qu U U U) U<|su (qu U U U) U<|sa U U<|sa U U<|qc<|qb<|qa [.p, .p, .p, .p, .p]<|sm U U<|su (qy (f := cInt) (l := (s69 a0).1) U Tryz.underlying38 U) U<|sm U U<|sa U U<|sa U U<|qc<|qo ?_;subst hR;exact resN U ⟨rv_g U, rv_g U, O⟩ (by simp)
def qcv  : List Int → Nat → Int
 | [], k2 => 0
 | y3 :: t4, k2 => (bif decide (y3 ≠ 0) then y3 else qcv  t4 (k2 + 1))
def j7 (a0 : List Int) : Int :=
 qcv a0 0
theorem qe6 {g : GL} (a0 : List Int)    : Con (EG g) 49 [G.sl 1 (List.map cInt a0)] (G.int (j7 a0)) := by
 generalize hR : j7 a0 = R;unfold j7 at hR;refine qm Tryz.func49 U U fun w0 M0 => ?_;refine zp (f := cInt) (l := a0) 0 U fun hla0 => ?_;refine qb<|qa [.p]<|sa U U<|qc<|qb<|qb<|qa [.p, .p, .p]<|sm U U<|su (qy (f := cInt) (l := a0) U Tryz.underlying170 U) U<|sm U U<|qc<|qq<|za (γ := Nat × (List Int)) (fun g => ([(5, .g (G.sl 1 (List.map cInt a0))), (6, .g (G.int (List.length a0 : Int))), (7, .g (G.int ((g.1 : Nat) : Int)))], [])) (fun g => a0.drop g.1 = g.2 ∧ qcv  g.2 g.1 = R) (fun g => List.length g.2) ⟨U, (0, a0), ⟨U, U, U, O⟩, O, U, ⟨U, (by exact hR)⟩, O⟩ ?_
 ·rintro ⟨k2, t4⟩ ⟨hd, hR⟩;replace hd : a0.drop k2 = t4 := hd;replace hR : qcv  t4 k2 = R := hR;refine qb<|qa [.p]<|su (ze U U U) U<|qc ?_;refine zp (f := cInt) (l := a0) 5 U fun hlz1 => ?_;refine qb ?_;refine ql _ U (fun h1 => ?_) (fun h1 => ?_)
  ·replace h1 : (decide (((k2 : Nat) : Int) < (List.length a0 : Int))) = true := h1;obtain ⟨y3, t4, rfl, hx1, hd⟩ := zq hd (decT h1);replace h1 := decT h1;rw [qcv] at hR;(try dsimp only at hR);refine qn<|qb<|qq<|qb<|qa [.p, .p, .p]<|su (z4 (f := cInt) (l := a0) (a := y3) U Tryz.underlying170 ty37 U U (Int.natCast_nonneg _) hx1) U<|su (qg U ty37 U) U<|sa U U<|qc<|qb<|qa [.p, .p]<|sm U U<|su (zx U U U) U<|qc ?_;refine ql _ U (fun h3 => ?_) (fun h3 => ?_)
   ·replace hR := zm hR h3;refine qb<|qa [.p, .p]<|sm U U<|sa U U<|qc<|qo ?_;subst hR;exact zb U (rv_g U)
   ·replace h3 : (decide (y3 ≠ 0)) = false := h3;replace hR := zn hR h3;(try simp only [bB] at h3);refine qn<|qa [.p, .p]<|su (zl U U U iE) U<|sm U U<|qc ?_;exact ⟨U, (k2 + 1, t4), ⟨U, U, U, O⟩, O, U, ⟨hd, hR⟩, by simp⟩
  ·replace h1 : (decide (((k2 : Nat) : Int) < (List.length a0 : Int))) = false := h1;obtain rfl := zu hd (decF h1);rw [qcv] at hR;refine zr<|qb<|qa [.p]<|sa U U<|qc<|qo ?_;subst hR;exact zb U (rv_g U)
def jg (a0 : Bool) (a1 : Int) : Int :=
 (bif a0 then a1 else 0)
theorem qdd {g : GL} (a0 : Bool) (a1 : Int)    : Con (EG g) 83 [G.bool a0, G.int a1] (G.int (jg a0 a1)) := by
 generalize hR : jg a0 a1 = R;unfold jg at hR;refine qm Tryz.func83 U U fun w0 M0 => ?_;refine qb<|qa [.p]<|sa U U<|qc<|qb<|qb<|qa [.p]<|sm U U<|qc ?_;refine ql _ U (fun h1 => ?_) (fun h1 => ?_)
 ·replace hR := zm hR h1;refine qb<|qa [.p, .p]<|sm U U<|sa U U<|qc<|qo ?_;subst hR;exact zb U (rv_g U)
 ·replace hR := zn hR h1;refine qn<|qb<|qa [.p]<|sa U U<|qc<|qo ?_;subst hR;exact zb U (rv_g U)
def qqm (a0 : Int) (a1 : Int) (a2 : Int) : Int :=
 (jg ((decide (a0 < a1)) || (decide (a2 < a0))) 3)
theorem q8v {g : GL} (a0 : Int) (a1 : Int) (a2 : Int)    : Con (EG g) 145 [G.int a0, G.int a1, G.int a2] (G.int (qqm a0 a1 a2)) := by
 generalize hR : qqm a0 a1 a2 = R;unfold qqm at hR;refine qm Tryz.func145 U U fun w0 M0 => ?_;refine qb<|qa [.p]<|sa rfl rfl<|qc<|qb<|qa [.p, .p, .p, .p, .p, .p, .p, .p, .p, .p]<|sm rfl rfl<|sm rfl rfl<|su (ze rfl rfl rfl) rfl<|sm rfl rfl<|sg rfl rfl (fun h => qk rfl rfl) rfl<|sg rfl rfl (fun h => qk rfl rfl) rfl<|sg rfl rfl (fun h => z6 rfl (gd h rfl) (gd h rfl)) rfl<|su (jm rfl rfl rfl rfl) rfl<|su (qf rfl qdc rfl (qdd ((decide (a0 < a1)) || (decide (a2 < a0))) 3) (qe rfl (qe rfl qj))) rfl<|sa rfl rfl<|qc<|qo ?_;subst hR;exact zb U (rv_g U)
def qlp (a0 : Int) : Int :=
 (qqm a0 0 99999)
theorem q5d {g : GL} (a0 : Int)    : Con (EG g) 87 [G.int a0] (G.int (qlp a0)) := by
 generalize hR : qlp a0 = R;unfold qlp at hR;refine qm Tryz.func87 U U fun w0 M0 => ?_;refine qb<|qa [.p]<|sa U U<|qc<|qb<|qa [.p, .p, .p]<|sm U U<|su (qf U q8w U (q8v a0 0 99999) (qe U (qe U (qe U qj)))) U<|sa U U<|qc<|qo ?_;subst hR;exact zb U (rv_g U)
def qbb (a0 : ByteArray) : Int :=
 (jg (!(s147 a0)) 8)
theorem qyh {g : GL} (a0 : ByteArray)    : Con (EG g) 118 [G.str a0] (G.int (qbb a0)) := by
 generalize hR : qbb a0 = R;unfold qbb at hR;refine qm Tryz.func118 U U fun w0 M0 => ?_;refine qb<|qa [.p]<|sa U U<|qc<|qb<|qa [.p, .p, .p, .p, .p]<|sm U U<|su (qf U K147 U (c147 a0) (qe U qj)) U<|su (jn U U) U<|su (qf U qdc U (qdd (!(s147 a0)) 8) (qe U (qe U qj))) U<|sa U U<|qc<|qo ?_;subst hR;exact zb U (rv_g U)
def qui (a0 : S5100) (a1 : ByteArray) : Bool :=
 decide (a0.Request.Name = a1)
theorem zc8 {g : GL} (a0 : S5100) (a1 : ByteArray)    : Con (EG g) 117 [G.agg [G.str a0.Request.Name, G.str a0.Request.Carrier, G.str a0.Request.Kind, G.str a0.Request.Terminal, G.str a0.Request.Partner, G.str a0.Request.Link, G.int a0.Request.Period.fFrom, G.int a0.Request.Period.fTo, G.int a0.Request.Period.Days, G.int a0.Request.Minute, G.int a0.Request.Seats, G.int a0.Request.Size, G.int a0.Request.Noise, G.str a0.Holder, G.sl 3 (List.map S5102.c a0.Leases), G.sl 1 (List.map cStr a0.Shares)], G.ref [G.str a1]] (G.bool (qui a0 a1)) := by
 generalize hR : qui a0 a1 = R;unfold qui at hR;refine qm Tryz.func117 U U fun w0 M0 => ?_;refine qb<|qa [.p, .p]<|su (zg U U) U<|sa U U<|qc<|qb<|qa [.p, .p, .p, .p, .p, .p]<|su (qd U qcw U) U<|su (qd U vh U) U<|su (qg U ty9 U) U<|su (qg U ty9 U) U<|su (ky U U U) U<|sa U U<|qc<|qo ?_;subst hR;exact zb U (rv_g U)
def wk (a1 : S5100 → Bool) : List S5100 → Nat → Int
 | [], k2 => (-1)
 | y3 :: t4, k2 => (bif (a1 y3) then ((k2 : Nat) : Int) else wk a1 t4 (k2 + 1))
def qrk (a0 : List S5100) (a1 : S5100 → Bool) : Int :=
 wk a1 a0 0
theorem q8x {g : GL} (a0 : List S5100) (a1 : S5100 → Bool) {ca1 : G} {ia1 : FuncId} {ka1 : List G} (ha1 : FnIs ca1 ia1 ka1) (Ka1 : zf Tryz.prog ia1) (Ha1 : ∀ (x0 : S5100), Con (EG g) ia1 ([G.agg [G.str x0.Request.Name, G.str x0.Request.Carrier, G.str x0.Request.Kind, G.str x0.Request.Terminal, G.str x0.Request.Partner, G.str x0.Request.Link, G.int x0.Request.Period.fFrom, G.int x0.Request.Period.fTo, G.int x0.Request.Period.Days, G.int x0.Request.Minute, G.int x0.Request.Seats, G.int x0.Request.Size, G.int x0.Request.Noise, G.str x0.Holder, G.sl 3 (List.map S5102.c x0.Leases), G.sl 1 (List.map cStr x0.Shares)]] ++ ka1) (G.bool (a1 x0)))   : Con (EG g) 116 [G.sl 16 (List.map S5100.c a0), ca1] (G.int (qrk a0 a1)) := by
 generalize hR : qrk a0 a1 = R;unfold qrk at hR;refine qm Tryz.func116 U U fun w0 M0 => ?_;refine zp (f := S5100.c) (l := a0) 0 U fun hla0 => ?_;refine qb<|qa [.p]<|sa U U<|qc<|qb<|qb<|qa [.p, .p, .p]<|sm U U<|su (qy (f := S5100.c) (l := a0) U Tryz.underlying40 U) U<|sm U U<|qc<|qq<|za (γ := Nat × (List S5100)) (fun g => ([(0, .g (G.sl 16 (List.map S5100.c a0))), (1, .g (ca1)), (7, .g (G.int (List.length a0 : Int))), (8, .g (G.int ((g.1 : Nat) : Int)))], [])) (fun g => a0.drop g.1 = g.2 ∧ wk a1 g.2 g.1 = R) (fun g => List.length g.2) ⟨U, (0, a0), jA, O, U, ⟨U, (by exact hR)⟩, O⟩ ?_
 ·rintro ⟨k2, t4⟩ ⟨hd, hR⟩;replace hd : a0.drop k2 = t4 := hd;replace hR : wk a1 t4 k2 = R := hR;refine qb<|qa [.p]<|su (ze U U U) U<|qc ?_;refine zp (f := S5100.c) (l := a0) 0 U fun hlz1 => ?_;refine qb ?_;refine ql _ U (fun h1 => ?_) (fun h1 => ?_)
  ·replace h1 : (decide (((k2 : Nat) : Int) < (List.length a0 : Int))) = true := h1;obtain ⟨y3, t4, rfl, hx1, hd⟩ := zq hd (decT h1);replace h1 := decT h1;rw [wk] at hR;(try dsimp only at hR);refine qn<|qb<|qq<|qb<|qa [.p, .p]<|sm U U<|sa U U<|qc<|qb<|qa [.p, .p, .p, .p, .p, .p]<|sm U U<|sm U U<|sm U U<|su (z4 (f := S5100.c) (l := a0) (a := y3) U Tryz.underlying40 ko U U (Int.natCast_nonneg _) hx1) U<|su (qp U ko U U U) U<|su (xf U ha1 Ka1 U (Ha1 y3) (qe U qj)) U<|qc ?_;refine ql _ U (fun h3 => ?_) (fun h3 => ?_)
   ·replace hR := zm hR h3;refine qb<|qa [.p, .p]<|sm U U<|sa U U<|qc<|qo ?_;subst hR;exact zb U (rv_g U)
   ·replace h3 : ((a1 y3)) = false := h3;replace hR := zn hR h3;(try simp only [bB] at h3);refine qn<|qa [.p, .p]<|su (zl U U U iE) U<|sm U U<|qc ?_;exact ⟨U, (k2 + 1, t4), jA, O, U, ⟨hd, hR⟩, by simp⟩
  ·replace h1 : (decide (((k2 : Nat) : Int) < (List.length a0 : Int))) = false := h1;obtain rfl := zu hd (decF h1);rw [wk] at hR;refine zr<|qb<|qa [.p]<|sa U U<|qc<|qo ?_;subst hR;exact zb U (rv_g U)
def xz (a0 : S5042) (a1 : ByteArray) : Int :=
 (qrk a0.Slots (fun x0 => qui x0 a1))
theorem qrz {g : GL} (a0 : S5042) (a1 : ByteArray)    : Con (EG g) 57 [G.agg [G.sl 16 (List.map S5100.c a0.Slots), G.sl 14 (List.map S5072.c a0.Waiting)], G.str a1] (G.int (xz a0 a1)) := by
 generalize hR : xz a0 a1 = R;unfold xz at hR;refine qm Tryz.func57 U U fun w0 M0 => ?_;refine qb<|qa [.p, .p, .p]<|su (zg U U) U<|su (zg U U) U<|sa U U<|qc<|qb<|qa [.p, .p, .p, .p, .p]<|su (qd U xe U) U<|su (qg U qbt U) U<|su (w6 U U U) U<|su (qf U q8y U (q8x a0.Slots (fun x0 => qui x0 a1) qgm zc9 (fun x0 => zc8 x0 a1)) (qe U (qe U qj))) U<|sa U U<|qc<|qo ?_;subst hR;exact zb U (rv_g U)
def xq (a0 : S5042) (a1 : ByteArray) : Int :=
 (jg (decide ((xz a0 a1) < 0)) 10)
theorem qx1 {g : GL} (a0 : S5042) (a1 : ByteArray)    : Con (EG g) 56 [G.agg [G.sl 16 (List.map S5100.c a0.Slots), G.sl 14 (List.map S5072.c a0.Waiting)], G.str a1] (G.int (xq a0 a1)) := by
 generalize hR : xq a0 a1 = R;unfold xq at hR;refine qm Tryz.func56 U U fun w0 M0 => ?_;refine qb<|qa [.p, .p]<|su (zg U U) U<|sa U U<|qc<|qb<|qa [.p, .p, .p, .p, .p, .p]<|su (qp U zi U U U) U<|sm U U<|su (qf U qry U (qrz a0 a1) (qe U (qe U qj))) U<|su (ze U U U) U<|su (qf U qdc U (qdd (decide ((xz a0 a1) < 0)) 10) (qe U (qe U qj))) U<|sa U U<|qc<|qo ?_;subst hR;exact zb U (rv_g U)
def qyi (a0 : S5072) (a1 : ByteArray) : Bool :=
 decide (a0.Request.Name = a1)
theorem zda {g : GL} (a0 : S5072) (a1 : ByteArray)    : Con (EG g) 155 [G.agg (S5072.c a0), G.ref [G.str a1]] (G.bool (qyi a0 a1)) := by
 generalize hR : qyi a0 a1 = R;unfold qyi at hR;refine qm Tryz.func155 U U fun w0 M0 => ?_;refine qb<|qa [.p, .p]<|su (zg U U) U<|sa U U<|qc<|qb<|qa [.p, .p, .p, .p, .p, .p]<|su (qd U qft U) U<|su (qd U vh U) U<|su (qg U ty9 U) U<|su (qg U ty9 U) U<|su (ky U U U) U<|sa U U<|qc<|qo ?_;subst hR;exact zb U (rv_g U)
def qfu (a1 : S5072 → Bool) : List S5072 → Nat → Int
 | [], k2 => (-1)
 | y3 :: t4, k2 => (bif (a1 y3) then ((k2 : Nat) : Int) else qfu a1 t4 (k2 + 1))
def q1a (a0 : List S5072) (a1 : S5072 → Bool) : Int :=
 qfu a1 a0 0
theorem zdb {g : GL} (a0 : List S5072) (a1 : S5072 → Bool) {ca1 : G} {ia1 : FuncId} {ka1 : List G} (ha1 : FnIs ca1 ia1 ka1) (Ka1 : zf Tryz.prog ia1) (Ha1 : ∀ (x0 : S5072), Con (EG g) ia1 ([G.agg (S5072.c x0)] ++ ka1) (G.bool (a1 x0)))   : Con (EG g) 188 [G.sl 14 (List.map S5072.c a0), ca1] (G.int (q1a a0 a1)) := by
 generalize hR : q1a a0 a1 = R;unfold q1a at hR;refine qm Tryz.func188 U U fun w0 M0 => ?_;refine zp (f := S5072.c) (l := a0) 0 U fun hla0 => ?_;refine qb<|qa [.p]<|sa U U<|qc<|qb<|qb<|qa [.p, .p, .p]<|sm U U<|su (qy (f := S5072.c) (l := a0) U Tryz.underlying41 U) U<|sm U U<|qc<|qq<|za (γ := Nat × (List S5072)) (fun g => ([(0, .g (G.sl 14 (List.map S5072.c a0))), (1, .g (ca1)), (7, .g (G.int (List.length a0 : Int))), (8, .g (G.int ((g.1 : Nat) : Int)))], [])) (fun g => a0.drop g.1 = g.2 ∧ qfu a1 g.2 g.1 = R) (fun g => List.length g.2) ⟨U, (0, a0), jA, O, U, ⟨U, (by exact hR)⟩, O⟩ ?_
 ·rintro ⟨k2, t4⟩ ⟨hd, hR⟩;replace hd : a0.drop k2 = t4 := hd;replace hR : qfu a1 t4 k2 = R := hR;refine qb<|qa [.p]<|su (ze U U U) U<|qc ?_;refine zp (f := S5072.c) (l := a0) 0 U fun hlz1 => ?_;refine qb ?_;refine ql _ U (fun h1 => ?_) (fun h1 => ?_)
  ·replace h1 : (decide (((k2 : Nat) : Int) < (List.length a0 : Int))) = true := h1;obtain ⟨y3, t4, rfl, hx1, hd⟩ := zq hd (decT h1);replace h1 := decT h1;rw [qfu] at hR;(try dsimp only at hR);refine qn<|qb<|qq<|qb<|qa [.p, .p]<|sm U U<|sa U U<|qc<|qb<|qa [.p, .p, .p, .p, .p, .p]<|sm U U<|sm U U<|sm U U<|su (z4 (f := S5072.c) (l := a0) (a := y3) U Tryz.underlying41 qf5 U U (Int.natCast_nonneg _) hx1) U<|su (qp U qf5 U U U) U<|su (xf U ha1 Ka1 U (Ha1 y3) (qe U qj)) U<|qc ?_;refine ql _ U (fun h3 => ?_) (fun h3 => ?_)
   ·replace hR := zm hR h3;refine qb<|qa [.p, .p]<|sm U U<|sa U U<|qc<|qo ?_;subst hR;exact zb U (rv_g U)
   ·replace h3 : ((a1 y3)) = false := h3;replace hR := zn hR h3;(try simp only [bB] at h3);refine qn<|qa [.p, .p]<|su (zl U U U iE) U<|sm U U<|qc ?_;exact ⟨U, (k2 + 1, t4), jA, O, U, ⟨hd, hR⟩, by simp⟩
  ·replace h1 : (decide (((k2 : Nat) : Int) < (List.length a0 : Int))) = false := h1;obtain rfl := zu hd (decF h1);rw [qfu] at hR;refine zr<|qb<|qa [.p]<|sa U U<|qc<|qo ?_;subst hR;exact zb U (rv_g U)
def q1b (a0 : List S5072) (a1 : S5072 → Bool) : Bool :=
 decide (0 ≤ (q1a a0 a1))
theorem zdc {g : GL} (a0 : List S5072) (a1 : S5072 → Bool) {ca1 : G} {ia1 : FuncId} {ka1 : List G} (ha1 : FnIs ca1 ia1 ka1) (Ka1 : zf Tryz.prog ia1) (Ha1 : ∀ (x0 : S5072), Con (EG g) ia1 ([G.agg (S5072.c x0)] ++ ka1) (G.bool (a1 x0)))   : Con (EG g) 154 [G.sl 14 (List.map S5072.c a0), ca1] (G.bool (q1b a0 a1)) := by
 generalize hR : q1b a0 a1 = R;unfold q1b at hR;refine qm Tryz.func154 U U fun w0 M0 => ?_;refine zp (f := S5072.c) (l := a0) 0 U fun hla0 => ?_;refine qb<|qa [.p]<|sa U U<|qc<|qb<|qa [.p, .p, .p, .p, .p]<|sm U U<|sm U U<|su (qf U zdd U (zdb a0 a1 ha1 Ka1 Ha1) (qe U (qe U qj))) U<|su (w4 U U U) U<|sa U U<|qc<|qo ?_;subst hR;exact zb U (rv_g U)
def qlw (a0 : S5042) (a1 : ByteArray) : Bool :=
 (decide (0 ≤ (xz a0 a1))) || (q1b a0.Waiting (fun x0 => qyi x0 a1))
theorem zde {g : GL} (a0 : S5042) (a1 : ByteArray)    : Con (EG g) 109 [G.agg [G.sl 16 (List.map S5100.c a0.Slots), G.sl 14 (List.map S5072.c a0.Waiting)], G.str a1] (G.bool (qlw a0 a1)) := by
 generalize hR : qlw a0 a1 = R;unfold qlw at hR;refine qm Tryz.func109 U U fun w0 M0 => ?_;refine qb<|qa [.p, .p, .p]<|su (zg U U) U<|su (zg U U) U<|sa U U<|qc<|qb<|qa [.p, .p, .p, .p, .p, .p, .p, .p, .p, .p, .p]<|su (qp U zi U U U) U<|su (qg U ty9 U) U<|su (qf U qry U (qrz a0 a1) (qe U (qe U qj))) U<|su (w4 U U U) U<|sm U U<|sg U U (fun h => qd U qdk U) U<|sg U U (fun h => qg U qjn (gd h U)) U<|sg U U (fun h => w6 U U U) U<|sg U U (fun h => qf U zdf U (zdc a0.Waiting (fun x0 => qyi x0 a1) qgm zdg (fun x0 => zda x0 a1)) (qe (gd h U) (qe (gd h U) qj))) U<|su (jm U U U U) U<|sa U U<|qc<|qo ?_;subst hR;exact zb U (rv_g U)
def qin (a0 : S5072) (a1 : S5072) : Int :=
 (s176 [(s167 a0.Rank a1.Rank), (s133 a0.Request.Name a1.Request.Name)])
theorem zdh {g : GL} (a0 : S5072) (a1 : S5072)    : Con (EG g) 84 [G.agg (S5072.c a0), G.agg (S5072.c a1)] (G.int (qin a0 a1)) := by
 generalize hR : qin a0 a1 = R;unfold qin at hR;refine qm Tryz.func84 U U fun w0 M0 => ?_;refine qb<|qa [.p, .p, .p]<|su (zg U U) U<|su (zg U U) U<|sa U U<|qc<|qb<|zt [.p, .p, .p, .p, .p, .p, .p, .p, .p, .p, .p, .p, .p, .p, .p] (by kernel_rfl)<|su (qd U qoy U) U<|su (qg U ty3 U) U<|su (qd U qoy U) U<|su (qg U ty3 U) U<|su (qf U K167 U (c167 a0.Rank a1.Rank) (qe U (qe U qj))) U<|su (qd U qft U) U<|su (qd U vh U) U<|su (qg U ty9 U) U<|su (qd U qft U) U<|su (qd U vh U) U<|su (qg U ty9 U) U<|su (qf U K133 U (c133 a0.Request.Name a1.Request.Name) (qe U (qe U qj))) U ?_;refine su (qt U Tryz.underlying38 ty3 z3 U (qv U (qv U jh)) U (by simp []) (by decide)) U ?_;refine su (qf U K176 U (c176 [(s167 a0.Rank a1.Rank), (s133 a0.Request.Name a1.Request.Name)]) (qe U qj)) U<|sa U U<|qc<|qo ?_;subst hR;exact zb U (rv_g U)
end Go.Sim
