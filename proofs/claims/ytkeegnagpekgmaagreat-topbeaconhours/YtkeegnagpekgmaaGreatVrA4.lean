/-
  What is proved: lemmas and contracts of functions on the way to the law topBeaconHours (part 4).
-/
import Derived.Test.YtkeegnagpekgmaaGreatVrA3
set_option linter.unusedSectionVars false
set_option linter.unusedSimpArgs false
set_option linter.unusedVariables false
set_option linter.unnecessarySimpa false
set_option linter.deprecated false
namespace Go.Ex
section
variable {P : Program} {gl : Nat → Bool} {GW : World → Prop} {ck : CallK} {n ro : Nat} {w0 : World} {ops : Array Oper} {mb : Nat} {r : Option Nat}
def cutR (ρ : Rh) (m : Nat) : Rh := fun id => if id < m then ρ id else none
theorem cutR_some {ρ : Rh} {m id : Nat} {l : Loc} : cutR ρ m id = some l ↔ id < m ∧ ρ id = some l := by
  unfold cutR
  by_cases h : id < m <;> simp [h]
theorem cutR_dom {ρ : Rh} {m : Nat} (h : Dom ρ m) : cutR ρ m = ρ := by
  funext id
  unfold cutR
  by_cases hi : id < m
  · rw [if_pos hi]
  · rw [if_neg hi]
    cases hr : ρ id with
    | none => rfl
    | some l => exact absurd (h id l hr) hi
theorem Rel.heap {ρ : Rh} {h h' : H} {w : World} (hr : Rel w0 ρ h w) (he : ∀ id l, ρ id = some l → h'.get id = h.get id) : Rel w0 ρ h' w where
  below := hr.below
  blk := fun id l hl => by rw [he id l hl]; exact hr.blk id l hl
  inj := fun id id' l l' b h1 h2 h3 h4 h5 => by rw [he id l h1] at h4; rw [he id' l' h2]; exact hr.inj id id' l l' b h1 h2 h3 h4 h5
theorem Ext.weak {c c' r2 : Nat} {ρ ρ' : Rh} {w w' : World} (e : Ext r2 c ρ w ρ' w' c') (h : ro ≤ r2) : Ext ro c ρ w ρ' w' c' :=
  ⟨e.sub, e.size, e.shape, e.os, e.tape, e.output, fun b hb hno => e.frame b hb fun id l h1 h2 => hno id l (Nat.le_trans h h1) h2, fun id l hl => (e.fresh id l hl).imp (fun h => h) fun ⟨a, b, d⟩ => ⟨a, b, d.imp (fun h => h) fun ⟨id0, l0, h1, h2⟩ => ⟨id0, l0, Nat.le_trans h h1, h2⟩⟩, e.le, e.cap⟩
theorem Ext.into {c c1 c2 C : Nat} {ρ ρ1 ρ2 : Rh} {w w1 w2 : World} (a : Ext ro c ρ w ρ1 w1 C) (b : Ext ro c1 ρ1 w1 ρ2 w2 c2) (h1 : c ≤ c1) (h2 : c2 ≤ C) : Ext ro c ρ w ρ2 w2 C where
  sub := fun id l h => b.sub _ _ (a.sub _ _ h)
  size := Nat.le_trans a.size b.size
  shape := fun b' vs t fr h => by
    obtain ⟨vs1, fr1, h1, h2⟩ := a.shape b' vs t fr h
    obtain ⟨vs2, fr2, h3, h4⟩ := b.shape b' vs1 t fr1 h1
    exact ⟨vs2, fr2, h3, h4.trans h2⟩
  os := b.os.trans a.os
  tape := b.tape.trans a.tape
  output := b.output.trans a.output
  frame := fun x hx hno => by
    have h1 := a.frame x hx hno
    rw [← h1]
    refine b.frame x (Nat.lt_of_lt_of_le hx a.size) fun id l hid hl => ?_
    rcases a.fresh id l hl with h2 | ⟨_, _, h3 | ⟨id0, l0, h4, h5, h6⟩⟩
    · exact hno id l hid h2
    · omega
    · rw [← h6]; exact hno id0 l0 h4 h5
  fresh := fun id l hl => by
    rcases b.fresh id l hl with g1 | ⟨g1, g2, g3⟩
    · exact a.fresh id l g1
    · refine .inr ⟨Nat.le_trans h1 g1, Nat.lt_of_lt_of_le g2 h2, ?_⟩
      rcases g3 with g3 | ⟨id0, l0, g4, g5, g6⟩
      · exact .inl (Nat.le_trans a.size g3)
      · rcases a.fresh id0 l0 g5 with g7 | ⟨_, _, g8 | ⟨id1, l1, g9, g10, g11⟩⟩
        · exact .inr ⟨id0, l0, g4, g7, g6⟩
        · exact .inl (by rw [← g6]; exact g8)
        · exact .inr ⟨id1, l1, g9, g10, g11.trans g6⟩
  le := a.le
  cap := a.cap
abbrev Cond (ops : Array Oper) (listed : Array Bool) (m : Nat) : Prop := ∀ k o, ops[k]? = some o → Fx ops k o m → (k < m ↔ listed.getD k false = true)
structure Inv (gl : Nat → Bool) (n mb ro : Nat) (w0 : World) (ops : Array Oper) (st : Nat → S) (ρ0 : Rh) (w00 : World) (listed : Array Bool) (ρ : Rh) (a : Act) (w : World) : Prop where
  defers : DefOk mb ρ w a.defers
  mbl : mb ≤ w.heap.size
  size : a.tmps.size = n
  lsize : listed.size = ops.size
  closed : ∀ j o, ops[j]? = some o → listed.getD j false = true → ∀ e ∈ o.after, Region.binds .any e = true → listed.getD e.on false = true
  glob : ∀ g, gl g = true → ρ g = some ⟨g, 0⟩
  globlt : ∀ g, gl g = true → g < (st 0).c
  dom : ∀ id l, ρ id = some l → id < (st 0).c ∨ ∃ j, j < ops.size ∧ listed.getD j false = true ∧ (st j).c ≤ id ∧ id < (st (j + 1)).c
  lt : ∀ id l, ρ id = some l → l.b < w.heap.size
  below : RowKit.Below w0.heap.size w0 w
  rel : ∀ m, m ≤ ops.size → Cond ops listed m → Rel w0 (cutR ρ (st m).c) (st m).h w
  tmps : ∀ d, ∃ m, m ≤ ops.size ∧ (m = 0 ∨ ∃ i o, m = i + 1 ∧ ops[i]? = some o ∧ o.dst = some d ∧ listed.getD i false = true) ∧
     (∀ k o, ops[k]? = some o → o.dst = some d → (k < m ↔ listed.getD k false = true)) ∧ VR w (cutR ρ (st m).c) (tmpV ((st m).t.get d)) (a.tmps.getD d undef)
  ext : Ext ro (st 0).c ρ0 w00 ρ w (st ops.size).c
  sep : ∀ i j oj, ops[j]? = some oj → chainOf ops j oj = some i → listed.getD i false = true → ¬ listed.getD j false = true → ∀ id1 id2 l1 l2, id1 < (st i).c → (st i).c ≤ id2 → id2 < (st (i + 1)).c → ρ id1 = some l1 → ρ id2 = some l2 → l1.b ≠ l2.b
theorem set_iff {listed : Array Bool} {j k : Nat} (hj : j < listed.size) : (listed.setIfInBounds j true).getD k false = true ↔ k = j ∨ listed.getD k false = true := by
  by_cases h : k = j
  · subst h; simp [hj]
  · rw [getD_set_ne false (Ne.symm h)]; simp [h]
section
variable {st : Nat → S} {ρ0 ρ : Rh} {w00 w : World} {listed : Array Bool} {a : Act} {j : Nat} {o : Oper}
theorem Inv.looks (tx : Tx P gl ck n ro ops st) (iv : Inv gl n mb ro w0 ops st ρ0 w00 listed ρ a w) (ok : orderOk ops = true) (ho : ops[j]? = some o) (hD : ¬ listed.getD j false = true)
    (hA : ∀ i, follows o i = true → listed.getD i false = true) (hB : ∀ i oi, ops[i]? = some oi → follows oi j = true → ¬ listed.getD i false = true) :
    ∀ d ∈ o.looksAt ops, VR w (cutR ρ (st j).c) (tmpV ((st j).t.get d)) (a.tmps.getD d undef) := by
  intro d hd
  have hj : j < ops.size := (Array.getElem?_eq_some_iff.1 ho).1
  obtain ⟨m, h1, h2, h3, h4⟩ := iv.tmps d
  have hmj : m ≤ j := by
    rcases h2 with rfl | ⟨i, oi, rfl, g1, g2, g3⟩
    · exact Nat.zero_le _
    · rcases Nat.lt_trichotomy i j with h | h | h
      · exact h
      · subst h; exact absurd g3 hD
      · rcases pairs_spec ok ho g1 h with h5 | h5
        · exact absurd g3 (hB i oi g1 h5)
        · exact absurd hd ((Oper.apart_spec h5).2.2 d g2)
  have hs : (st j).t.get d = (st m).t.get d := tx.slot hmj (by omega) fun k ok' hk k1 k2 hdk => by
    have hno : ¬ listed.getD k false = true := fun e => by have := (h3 k ok' hk hdk).2 e; omega
    rcases pairs_spec ok hk ho k2 with h5 | h5
    · exact hno (hA k h5)
    · exact (Oper.apart_spec h5).1 d hdk hd
  rw [hs]
  refine h4.mono (fun id l h => ?_) (fun b vs t fr h => ⟨vs, fr, h, rfl⟩)
  obtain ⟨g1, g2⟩ := cutR_some.1 h
  exact cutR_some.2 ⟨Nat.lt_of_lt_of_le g1 (tx.le hmj (by omega)), g2⟩
theorem Inv.next (tx : Tx P gl ck n ro ops st) (iv : Inv gl n mb ro w0 ops st ρ0 w00 listed ρ a w) (ok : orderOk ops = true) (ho : ops[j]? = some o) (hD : ¬ listed.getD j false = true)
    (hE : ∀ e ∈ o.after, Region.binds .any e = true → listed.getD e.on false = true)
    (hA : ∀ i, follows o i = true → listed.getD i false = true) (hB : ∀ i oi, ops[i]? = some oi → follows oi j = true → ¬ listed.getD i false = true)
    {ρ' : Rh} {v : V} {u : Value} {w' : World} (e : Ext ro (st j).c ρ w ρ' w' (st (j + 1)).c)
    (hrel : ∀ m, m ≤ ops.size → Cond ops (listed.setIfInBounds j true) m → Rel w0 (cutR ρ' (st m).c) (st m).h w')
    (hv : VR w' (cutR ρ' (st (j + 1)).c) v u) (hp : PutV n (st j) (st (j + 1)) o.dst v) (hlt : ∀ id l, ρ' id = some l → l.b < w'.heap.size) (hb : RowKit.Below w0.heap.size w0 w')
    (hal : ∀ id l, ρ' id = some l → (st j).c ≤ id → id < (st (j + 1)).c → w.heap.size ≤ l.b ∨ ∃ id0 l0, id0 < (st j).c ∧ ρ id0 = some l0 ∧ l0.b = l.b)
    (hhd : (∃ k ok, ops[k]? = some ok ∧ chainOf ops k ok = some j) → ∀ id l, ρ' id = some l → (st j).c ≤ id → id < (st (j + 1)).c → w.heap.size ≤ l.b) :
    Inv gl n mb ro w0 ops st ρ0 w00 (listed.setIfInBounds j true) ρ' (a.put o.dst u) w' := by
  have hj : j < ops.size := (Array.getElem?_eq_some_iff.1 ho).1
  have hjl : j < listed.size := by rw [iv.lsize]; exact hj
  have hset : ∀ k, (listed.setIfInBounds j true).getD k false = true ↔ k = j ∨ listed.getD k false = true := fun k => set_iff hjl
  refine ⟨by rw [Sim.defers_put]; exact iv.defers.ext e, Nat.le_trans iv.mbl e.size, by rw [Sim.size_put]; exact iv.size, by simpa using iv.lsize, ?_, fun g hg => e.sub _ _ (iv.glob g hg), iv.globlt, ?_, hlt, hb, hrel, ?_, ?_, ?_⟩
  · intro i oi hi hl x hx hbx
    rw [hset] at hl ⊢
    rcases hl with rfl | hl
    · have : oi = o := by rw [ho] at hi; exact (Option.some.inj hi).symm
      subst this
      exact .inr (hE x hx hbx)
    · exact .inr (iv.closed i oi hi hl x hx hbx)
  · intro id l hl
    rcases e.fresh id l hl with h | ⟨h1, h2, _⟩
    · rcases iv.dom id l h with h | ⟨i, h1, h2, h3⟩
      · exact .inl h
      · exact .inr ⟨i, h1, (hset i).2 (.inr h2), h3⟩
    · exact .inr ⟨j, hj, (hset j).2 (.inl rfl), h1, h2⟩
  · intro d
    rw [Sim.getD_put _ _ _ (fun d' h => by rw [iv.size]; exact hp.1 d' h)]
    by_cases hd : o.dst = some d
    · refine ⟨j + 1, hj, .inr ⟨j, o, rfl, ho, hd, (hset j).2 (.inl rfl)⟩, ?_, ?_⟩
      · intro k ok' hk hdk
        rw [hset]
        rcases Nat.lt_trichotomy k j with h | h | h
        · refine ⟨fun _ => .inr ?_, fun _ => by omega⟩
          rcases pairs_spec ok hk ho h with h5 | h5
          · exact hA k h5
          · exact absurd hd ((Oper.apart_spec h5).2.1 d hdk)
        · exact ⟨fun _ => .inl h, fun _ => by omega⟩
        · refine ⟨fun h' => by omega, fun h' => ?_⟩
          rcases h' with rfl | h'
          · omega
          · exfalso
            rcases pairs_spec ok ho hk h with h5 | h5
            · exact hB k ok' hk h5 h'
            · exact (Oper.apart_spec h5).2.1 d hd hdk
      · rw [if_pos hd, hp.2 d, if_pos hd]
        exact hv
    · rw [if_neg hd]
      obtain ⟨m, h1, h2, h3, h4⟩ := iv.tmps d
      refine ⟨m, h1, ?_, ?_, ?_⟩
      · rcases h2 with h2 | ⟨i, oi, g1, g2, g3, g4⟩
        · exact .inl h2
        · exact .inr ⟨i, oi, g1, g2, g3, (hset i).2 (.inr g4)⟩
      · intro k ok' hk hdk
        rw [hset]
        have hkj : k ≠ j := by
          rintro rfl
          rw [ho] at hk
          cases hk
          exact hd hdk
        rw [h3 k ok' hk hdk]
        exact ⟨fun h => .inr h, fun h => h.resolve_left hkj⟩
      · refine h4.mono (fun id l h => ?_) e.shape
        obtain ⟨g1, g2⟩ := cutR_some.1 h
        exact cutR_some.2 ⟨g1, e.sub _ _ g2⟩
  · exact iv.ext.into e (tx.le (Nat.zero_le _) (by omega)) (tx.le hj (Nat.le_refl _))
  · intro i jt oj hjt hch hli hlj id1 id2 l1 l2 h1 h2 h3 h4 h5
    obtain ⟨_, hij, hfo, ⟨oi, hoi, _, _, _⟩, _, _⟩ := chain_spec hch
    have hjts : jt < ops.size := (Array.getElem?_eq_some_iff.1 hjt).1
    have hlj' : ¬ listed.getD jt false = true := fun hx => hlj ((hset jt).2 (.inr hx))
    rcases (hset i).1 hli with rfl | hli2
    · -- this one has made them
      have q2 := hhd ⟨jt, oj, hjt, hch⟩ id2 l2 h5 h2 h3
      have q1 : l1.b < w.heap.size := by
        rcases e.fresh id1 l1 h4 with h | ⟨h, _, _⟩
        · exact iv.lt id1 l1 h
        · omega
      omega
    · have hij' : i ≠ j := by rintro rfl; exact hD hli2
      have h5' : ρ id2 = some l2 := by
        rcases e.fresh id2 l2 h5 with h | ⟨g1, g2, _⟩
        · exact h
        · exfalso
          rcases Nat.lt_or_gt_of_ne hij' with h | h
          · have := tx.le (i := i + 1) (j := j) h (by omega); omega
          · have := tx.le (i := j + 1) (j := i) h (by omega); omega
      rcases e.fresh id1 l1 h4 with h | ⟨g1, g2, _⟩
      · exact iv.sep i jt oj hjt hch hli2 hlj' id1 id2 l1 l2 h1 h2 h3 h h5'
      · rcases hal id1 l1 h4 g1 g2 with q | ⟨id0, l0, q1, q2, q3⟩
        · have := iv.lt id2 l2 h5'; omega
        · rw [← q3]
          exact iv.sep i jt oj hjt hch hli2 hlj' id0 id2 l0 l2 (by omega) h2 h3 q2 h5'
theorem all_dead : ∀ c, c ≤ 1048576 → ∃ h : H, ∀ id, id < c → h.get id = some .dead
  | 0, _ => ⟨.nil, fun _ h => by omega⟩
  | c + 1, hc => by
    obtain ⟨h, hh⟩ := all_dead c (by omega)
    refine ⟨hset h c .dead, fun id hid => ?_⟩
    rw [hget_set (by omega)]
    by_cases h1 : id = c
    · rw [if_pos h1]
    · rw [if_neg h1]; exact hh id (by omega)
theorem Inv.step (hgw : GW w0) (hck : CKok P gl GW ck) (tx : Tx P gl ck n ro ops st) (iv : Inv gl n mb ro w0 ops st ρ0 w00 listed ρ a w) (ok : orderOk ops = true) (ho : ops[j]? = some o) (hD : ¬ listed.getD j false = true)
    (hE : ∀ e ∈ o.after, Region.binds .any e = true → listed.getD e.on false = true) {K : Act → World → Prop} {Q : Exit → Act → World → Prop}
    (hK : ∀ ρ' a' w', Inv gl n mb ro w0 ops st ρ0 w00 (listed.setIfInBounds j true) ρ' a' w' → K a' w') :
    if Region.wanted o (yielded ops a.tmps) then o.wpIn (Fr r) 0 P a w K Q else (∀ f, o.about P w a.eval = some f → (Fr r).fn f) ∧ K (a.put o.dst undef) w := by
  have hj : j < ops.size := (Array.getElem?_eq_some_iff.1 ho).1
  have hjl : j < listed.size := by rw [iv.lsize]; exact hj
  have hset : ∀ k, (listed.setIfInBounds j true).getD k false = true ↔ k = j ∨ listed.getD k false = true := fun k => set_iff hjl
  have hA : ∀ i, follows o i = true → listed.getD i false = true := fun i hi => by
    obtain ⟨x, h1, h2, rfl⟩ := follows_spec hi
    exact hE x h1 h2
  have hB : ∀ i oi, ops[i]? = some oi → follows oi j = true → ¬ listed.getD i false = true := fun i oi hi hf hl => by
    obtain ⟨x, h1, h2, h3⟩ := follows_spec hf
    have := iv.closed i oi hi hl x h1 h2
    rw [h3] at this
    exact hD this
  have hlook := iv.looks tx ok ho hD hA hB
  have reach : ∀ (f : Nat) (o' : Oper) (i : Nat), (∀ e ∈ o'.after, Region.binds .any e = true → listed.getD e.on false = true) → followsN ops f o' i = true → listed.getD i false = true := by
    intro f
    induction f with
    | zero =>
      intro o' i he hf
      obtain ⟨x, h1, h2, rfl⟩ := follows_spec hf
      exact he x h1 h2
    | succ f ih =>
      intro o' i he hf
      simp only [followsN, Bool.or_eq_true] at hf
      rcases hf with hf | hf
      · obtain ⟨x, h1, h2, rfl⟩ := follows_spec hf
        exact he x h1 h2
      · obtain ⟨e, he1, he2⟩ := List.any_eq_true.1 hf
        simp only [Bool.and_eq_true] at he2
        obtain ⟨he2, he3⟩ := he2
        split at he3
        · rename_i o'' ho''
          exact ih o'' i (fun x hx hb => iv.closed e.on o'' ho'' (he e (by simpa using he1) he2) x hx hb) he3
        · cases he3
  have hA1 := hA
  have hB1 := hB
  have hA : ∀ i, before ops o i = true → listed.getD i false = true := fun i hi => (before_ok hi).elim fun f hf => reach f o i hE hf
  have hB : ∀ i oi, ops[i]? = some oi → before ops oi j = true → ¬ listed.getD i false = true := fun i oi hi hf hl => (before_ok hf).elim fun f hf => hD (reach f oi j (fun x hx hb => iv.closed i oi hi hl x hx hb) hf)
  have hstep := tx.step j o ho
  have hcj := tx.top j (by omega)
  have hglob : ∀ g, gl g = true → cutR ρ (st j).c g = some ⟨g, 0⟩ := fun g hg => cutR_some.2 ⟨Nat.lt_of_lt_of_le (iv.globlt g hg) (tx.le (Nat.zero_le _) (by omega)), iv.glob g hg⟩
  have hdomc : Dom (cutR ρ (st j).c) (st j).c := fun id l h => (cutR_some.1 h).1
  -- where this one is among those that may not change places
  have hcond : free o = false → Cond ops listed j := by
    intro hfr k ok' hk hfk
    rcases hfk.2 with hfx | ⟨hnfx, q, hch, hq⟩
    · rcases fixed_spec hfx ho with h | h | ⟨h1, h2⟩ | ⟨h1, h2⟩
      · rw [hfr] at h; cases h
      · subst h
        exact ⟨fun h => by omega, fun h => absurd h hD⟩
      · exact ⟨fun h => by omega, fun h => absurd h (hB k ok' hk h2)⟩
      · exact ⟨fun _ => hA k h2, fun _ => h1⟩
    · obtain ⟨_, hqk, _, _, hbt, htl⟩ := chain_spec hch
      rcases Nat.lt_trichotomy k j with h | h | h
      · rcases htl j o h ho with h1 | h1
        · rw [hfr] at h1; cases h1
        · exact ⟨fun _ => hA k h1, fun _ => h⟩
      · subst h
        exact ⟨fun h => by omega, fun h => absurd h hD⟩
      · have := hbt j o hq h ho
        rw [hfr] at this; cases this
  have noLater : free o = false → ∀ k ok', ops[k]? = some ok' → j < k → Fx ops k ok' (j + 1) → ¬ listed.getD k false = true := by
    intro hfr k ok' hk hjk hfk
    rcases hfk.2 with hfx | ⟨_, q, hch, hq⟩
    · rcases fixed_spec hfx ho with h | h | ⟨h1, h2⟩ | ⟨h1, h2⟩
      · rw [hfr] at h; cases h
      · omega
      · exact hB k ok' hk h2
      · omega
    · obtain ⟨_, hqk, hfo, _, hbt, htl⟩ := chain_spec hch
      rcases Nat.lt_or_ge q j with h | h
      · have := hbt j o h hjk ho
        rw [hfr] at this; cases this
      · have : q = j := by omega
        subst this
        exact hB1 k ok' hk hfo
  cases hfr : free o with
  | true =>
    obtain ⟨e1, e2, e3⟩ := free_step hfr hstep
    obtain ⟨hd, hhd⟩ := all_dead (st j).c hcj
    have hr : Rel w0 (cutR ρ (st j).c) hd w := by
      refine ⟨iv.below, fun id l hl => ⟨.dead, hhd id (cutR_some.1 hl).1, iv.lt id l (cutR_some.1 hl).2, trivial, fun h => by cases h⟩, fun id id' l l' b h1 h2 h3 h4 h5 => ?_⟩
      rw [hhd id (cutR_some.1 h1).1] at h4
      cases h4
      cases h5
    refine step_raw (s := ⟨(st j).t, hd, (st j).c⟩) (ρ := cutR ρ (st j).c) tx.nn hgw hck hr hdomc hcj hglob hlook (e3 hd (st j).c) ?_
    intro ρ' v u w' h1 h2 h3 h4
    have hρ : ρ' = cutR ρ (st j).c := by
      funext id
      cases hx : ρ' id with
      | some l =>
        rcases h2.fresh id l hx with g | ⟨g1, g2, _⟩
        · exact g.symm
        · exact absurd (show id < (st j).c from g2) (by have : (st j).c ≤ id := g1; omega)
      | none =>
        cases hy : cutR ρ (st j).c id with
        | none => rfl
        | some l => rw [h2.sub id l hy] at hx; cases hx
    subst hρ
    have hfm : ∀ b, b < w.heap.size → w'.heap[b]? = w.heap[b]? := fun b hb => h2.frame b hb fun id l g1 g2 => absurd (hdomc id l g2) (by have : (st j).c ≤ id := g1; omega)
    refine hK ρ _ w' (iv.next tx ok ho hD hE hA1 hB1 (v := v) ?_ ?_ (by rw [e2]; exact h3) h4 (fun id l hl => Nat.lt_of_lt_of_le (iv.lt id l hl) h2.size) h1.below ?_ ?_)
    · exact ⟨fun _ _ h => h, h2.size, h2.shape, h2.os, h2.tape, h2.output, fun b hb _ => hfm b hb, fun _ _ h => .inl h, by rw [e2]; exact Nat.le_refl _, fun h => by rw [e2]; exact h⟩
    · intro m hm hc
      refine (iv.rel m hm fun k ok' hk hfk => ?_).still h1.below h2.size hfm
      rw [hc k ok' hk hfk, hset]
      refine ⟨fun h => h.resolve_left ?_, fun h => .inr h⟩
      rintro rfl
      rw [ho] at hk
      cases hk
      rw [hfk.1] at hfr; cases hfr
    · intro id l _ g1 g2; rw [e2] at g2; omega
    · intro _ id l _ g1 g2; rw [e2] at g2; omega
  | false =>
    have hc := hcond hfr
    have hr := iv.rel j (by omega) hc
    have aux : (∀ i oi, ops[i]? = some oi → j < i → free oi = false → ¬ listed.getD i false = true) → Dom ρ (st j).c := by
      intro hno id l hl
      rcases iv.dom id l hl with h | ⟨i, h1, h2, h3, h4⟩
      · exact Nat.lt_of_lt_of_le h (tx.le (Nat.zero_le _) (by omega))
      · obtain ⟨oi, hoi⟩ := op_at h1
        rcases Nat.lt_trichotomy i j with h | h | h
        · exact Nat.lt_of_lt_of_le h4 (tx.le h (by omega))
        · subst h; exact absurd h2 hD
        · cases hf : free oi with
          | true => rw [(free_step hf (tx.step i oi hoi)).2.1] at h4; omega
          | false => exact absurd h2 (hno i oi hoi h hf)
    -- it turns what was there, and all else is bound to it
    have bound : ∀ ro2, ro ≤ ro2 → (compOp P gl n ck ops o).run ro2 (st j) = .ok (st (j + 1)) → Dom ρ (st j).c → ¬ (∃ k ok, ops[k]? = some ok ∧ chainOf ops k ok = some j) →
        (∀ ρ' w', Rel w0 ρ' (st (j + 1)).h w' → Ext ro2 (st j).c ρ w ρ' w' (st (j + 1)).c → ∀ m, m ≤ ops.size → Cond ops (listed.setIfInBounds j true) m → ¬ Fx ops j o m → Rel w0 (cutR ρ' (st m).c) (st m).h w') →
        if Region.wanted o (yielded ops a.tmps) then o.wpIn (Fr r) 0 P a w K Q else (∀ f, o.about P w a.eval = some f → (Fr r).fn f) ∧ K (a.put o.dst undef) w := by
      intro ro2 hro2 hstep hdom hnh hlow
      rw [cutR_dom hdom] at hr hlook hglob
      refine step_raw tx.nn hgw hck hr hdom hcj hglob hlook hstep ?_
      intro ρ' v u w' h1 h2 h3 h4
      have hd' : Dom ρ' (st (j + 1)).c := h2.dom hdom
      refine hK ρ' _ w' (iv.next tx ok ho hD hE hA1 hB1 (v := v) (h2.weak hro2) ?_ (by rw [cutR_dom hd']; exact h3) h4 (fun id l hl => by obtain ⟨b, _, g, _⟩ := h1.blk id l hl; exact g) h1.below (fun id l hl g1 _ => ?_) (fun hh => absurd hh hnh))
      · intro m hm hcm
        by_cases hfm : Fx ops j o m
        · have hjm : j < m := (hcm j o ho hfm).2 ((hset j).2 (.inl rfl))
          have hle := tx.le hjm hm
          rw [cutR_dom (fun id l hl => Nat.lt_of_lt_of_le (hd' id l hl) hle)]
          refine h1.heap fun id l hl => tx.keep hjm hm (fun k ok' hk k1 k2 hfk => ?_) id (hd' id l hl)
          have h5 := (hcm k ok' hk (hfk.mono hjm)).1 k2
          rw [hset] at h5
          rcases h5 with h5 | h5
          · omega
          · exact noLater hfr k ok' hk (by omega) hfk h5
        · exact hlow ρ' w' h1 h2 m hm hcm hfm
      · rcases h2.fresh id l hl with g | ⟨_, _, g | ⟨id0, l0, _, g3, g4⟩⟩
        · have := hdom id l g; omega
        · exact .inl g
        · exact .inr ⟨id0, l0, hdom id0 l0 g3, g3, g4⟩
    unfold roAt at hstep
    cases hfx : fixed ops j o with
    | true =>
      rw [hfx, if_pos rfl] at hstep
      refine bound ro (Nat.le_refl _) hstep (aux fun i oi hoi hji hfi => ?_) ?_ ?_
      · rcases fixed_spec hfx hoi with h | h | ⟨h, _⟩ | ⟨h, hf⟩
        · rw [hfi] at h; cases h
        · omega
        · omega
        · exact hB i oi hoi hf
      · rintro ⟨k, ok', hk, hch⟩
        obtain ⟨_, _, _, ⟨oi, g1, _, g2, _⟩, _⟩ := chain_spec hch
        rw [ho] at g1; cases g1
        rw [hfx] at g2; cases g2
      · intro ρ' w' _ _ m _ _ hno
        exact absurd ⟨hfr, .inl hfx⟩ hno
    | false =>
    rw [hfx, if_neg (by simp)] at hstep
    cases hch : chainOf ops j o with
    | some i =>
      rw [hch] at hstep
      obtain ⟨_, hij, hfo, ⟨oi, hoi, hoif, _, hoic⟩, hbt, htl⟩ := chain_spec hch
      have hli := hA1 i hfo
      have hdom : Dom ρ (st j).c := aux fun k ok' hk hjk hfk => by
        rcases htl k ok' hjk hk with h | h
        · rw [hfk] at h; cases h
        · exact hB k ok' hk h
      have hcij : (st (i + 1)).c = (st j).c := by
        have := tx.same (i := i + 1) (j - (i + 1)) (by omega) (fun k ok' h1 h2 hk => hbt k ok' (by omega) (by omega) hk)
        rw [show i + 1 + (j - (i + 1)) = j by omega] at this
        exact this.symm
      refine bound (max ro (st i).c) (by omega) hstep hdom ?_ ?_
      · rintro ⟨k, ok', hk, hck'⟩
        obtain ⟨_, _, _, ⟨oj, g1, _, _, g2⟩, _⟩ := chain_spec hck'
        rw [ho] at g1; cases g1
        rw [hch] at g2; cases g2
      · intro ρ' w' h1 h2 m hm hcm hno
        have him : m ≤ i := by
          rcases Nat.lt_or_ge i m with h | h
          · exact absurd ⟨hfr, .inr ⟨hfx, i, hch, h⟩⟩ hno
          · exact h
        have hci := tx.le him (by omega)
        have hcc := tx.le (i := i) (j := j) (by omega) (by omega)
        have hR := iv.rel m hm fun k ok' hk hfk => by
          rw [hcm k ok' hk hfk, hset]
          refine ⟨fun h => h.resolve_left ?_, fun h => .inr h⟩
          rintro rfl
          rw [ho] at hk; cases hk
          exact hno hfk
        have hcut : cutR ρ' (st m).c = cutR ρ (st m).c := by
          funext id
          unfold cutR
          by_cases hid : id < (st m).c
          · rw [if_pos hid, if_pos hid]
            cases hx : ρ' id with
            | some l =>
              rcases h2.fresh id l hx with g | ⟨g, _, _⟩
              · exact g.symm
              · omega
            | none =>
              cases hy : ρ id with
              | none => rfl
              | some l => rw [h2.sub id l hy] at hx; cases hx
          · rw [if_neg hid, if_neg hid]
        rw [hcut]
        refine ⟨h1.below, fun id l hl => ?_, hR.inj⟩
        obtain ⟨b, k1, k2, k3, k4⟩ := hR.blk id l hl
        obtain ⟨g1, g2⟩ := cutR_some.1 hl
        refine ⟨b, k1, Nat.lt_of_lt_of_le k2 h2.size, BR.mono (fun _ _ h => h) h2.shape k3 (h2.frame _ k2 fun id2 l2 hr2 hl2 heq => ?_), k4⟩
        exact iv.sep i j o ho hch hli hD id id2 l l2 (by omega) (by omega) (by have := hdom id2 l2 hl2; omega) g2 hl2 heq.symm
    | none =>
      rw [hch] at hstep
      have hnf : ∀ k ok' m, ops[k]? = some ok' → Fx ops k ok' m → k ≠ j := by
        rintro k ok' m hk hfk rfl
        rw [ho] at hk; cases hk
        rcases hfk.2 with h | ⟨_, q, h, _⟩
        · rw [hfx] at h; cases h
        · rw [hch] at h; cases h
      refine step_raw (ro := (st j).c) tx.nn hgw hck hr hdomc hcj hglob hlook hstep ?_
      intro ρ1 v u w' h1 h2 h3 h4
      have hgap : ∀ id l, ρ id = some l → ¬ ((st j).c ≤ id ∧ id < (st (j + 1)).c) := by
        rintro id l hl ⟨g1, g2⟩
        rcases iv.dom id l hl with h | ⟨i, k1, k2, k3, k4⟩
        · have := tx.le (Nat.zero_le j) (by omega); omega
        · rcases Nat.lt_trichotomy i j with h | h | h
          · have := tx.le (i := i + 1) (j := j) h (by omega); omega
          · subst h; exact hD k2
          · have := tx.le (i := j + 1) (j := i) h (by omega); omega
      let ρ' : Rh := fun id => if (st j).c ≤ id ∧ id < (st (j + 1)).c then ρ1 id else ρ id
      have hin : ∀ {id : Nat}, ((st j).c ≤ id ∧ id < (st (j + 1)).c) → ρ' id = ρ1 id := fun h => if_pos h
      have hout : ∀ {id : Nat}, ¬ ((st j).c ≤ id ∧ id < (st (j + 1)).c) → ρ' id = ρ id := fun h => if_neg h
      have hsub : ∀ id l, ρ id = some l → ρ' id = some l := fun id l hl => by rw [hout (hgap id l hl)]; exact hl
      have hsub1 : ∀ id l, ρ1 id = some l → id < (st (j + 1)).c ∧ ρ' id = some l := fun id l hl => by
        rcases h2.fresh id l hl with g | ⟨g1, g2, _⟩
        · obtain ⟨g1, g2⟩ := cutR_some.1 g
          exact ⟨Nat.lt_of_lt_of_le g1 h2.le, hsub id l g2⟩
        · exact ⟨g2, by rw [hin ⟨g1, g2⟩]; exact hl⟩
      have hnew : ∀ id l, ((st j).c ≤ id ∧ id < (st (j + 1)).c) → ρ1 id = some l → w.heap.size ≤ l.b := fun id l hi hl => by
        rcases h2.fresh id l hl with g | ⟨_, _, g | ⟨id0, l0, g1, g2, _⟩⟩
        · have := (cutR_some.1 g).1; omega
        · exact g
        · have := (cutR_some.1 g2).1; omega
      have hfm : ∀ b, b < w.heap.size → w'.heap[b]? = w.heap[b]? := fun b hb => h2.frame b hb fun id l g1 g2 => absurd (hdomc id l g2) (by omega)
      refine hK ρ' _ w' (iv.next tx ok ho hD hE hA1 hB1 (v := v) ?_ ?_ ?_ h4 ?_ h1.below (fun id l hl g1 g2 => .inl (hnew id l ⟨g1, g2⟩ (by rw [← hin ⟨g1, g2⟩]; exact hl))) (fun _ id l hl g1 g2 => hnew id l ⟨g1, g2⟩ (by rw [← hin ⟨g1, g2⟩]; exact hl)))
      · refine ⟨hsub, h2.size, h2.shape, h2.os, h2.tape, h2.output, fun b hb _ => hfm b hb, fun id l hl => ?_, h2.le, h2.cap⟩
        by_cases hi : (st j).c ≤ id ∧ id < (st (j + 1)).c
        · rw [hin hi] at hl
          exact .inr ⟨hi.1, hi.2, .inl (hnew id l hi hl)⟩
        · rw [hout hi] at hl; exact .inl hl
      · intro m hm hcm
        have hcm' : Cond ops listed m := fun k ok' hk hfk => by
          rw [hcm k ok' hk hfk, hset]
          exact ⟨fun h => h.resolve_left (hnf k ok' m hk hfk), fun h => .inr h⟩
        have hR := iv.rel m hm hcm'
        have hkeep : j + 1 ≤ m → ∀ id, id < (st (j + 1)).c → (st m).h.get id = (st (j + 1)).h.get id := fun hjm id hid => tx.keep hjm hm (fun k ok' hk k1 k2 hfk =>
          noLater hfr k ok' hk (by omega) hfk ((hcm' k ok' hk (hfk.mono hjm)).1 k2)) id hid
        have hjm : ∀ {id : Nat}, ((st j).c ≤ id ∧ id < (st (j + 1)).c) → id < (st m).c → j + 1 ≤ m := fun {id} hi hid => by
          rcases Nat.lt_or_ge j m with h | h
          · exact h
          · have := tx.le h (by omega : j ≤ ops.size); omega
        refine ⟨h1.below, ?_, ?_⟩
        · intro id l hl
          obtain ⟨g1, g2⟩ := cutR_some.1 hl
          by_cases hi : (st j).c ≤ id ∧ id < (st (j + 1)).c
          · rw [hin hi] at g2
            have hm1 := hjm hi g1
            obtain ⟨b, k1, k2, k3, k4⟩ := h1.blk id l g2
            refine ⟨b, by rw [hkeep hm1 id hi.2]; exact k1, k2, BR.mono (fun id' l' hl' => ?_) (fun b vs t fr h => ⟨vs, fr, h, rfl⟩) k3 rfl, k4⟩
            obtain ⟨q1, q2⟩ := hsub1 id' l' hl'
            exact cutR_some.2 ⟨Nat.lt_of_lt_of_le q1 (tx.le hm1 hm), q2⟩
          · rw [hout hi] at g2
            obtain ⟨b, k1, k2, k3, k4⟩ := hR.blk id l (cutR_some.2 ⟨g1, g2⟩)
            refine ⟨b, k1, Nat.lt_of_lt_of_le k2 h2.size, BR.mono (fun id' l' hl' => ?_) h2.shape k3 (hfm _ k2), k4⟩
            obtain ⟨q1, q2⟩ := cutR_some.1 hl'
            exact cutR_some.2 ⟨q1, hsub _ _ q2⟩
        · intro id id' l l' b g1 g2 g3 g4 g5
          obtain ⟨g1a, g1b⟩ := cutR_some.1 g1
          obtain ⟨g2a, g2b⟩ := cutR_some.1 g2
          by_cases hi : (st j).c ≤ id ∧ id < (st (j + 1)).c
          · rw [hin hi] at g1b
            by_cases hi' : (st j).c ≤ id' ∧ id' < (st (j + 1)).c
            · rw [hin hi'] at g2b
              rw [hkeep (hjm hi g1a) id hi.2] at g4
              rw [hkeep (hjm hi' g2a) id' hi'.2]
              exact h1.inj id id' l l' b g1b g2b g3 g4 g5
            · rw [hout hi'] at g2b
              have q1 := hnew id l hi g1b
              have q2 := iv.lt id' l' g2b
              omega
          · rw [hout hi] at g1b
            by_cases hi' : (st j).c ≤ id' ∧ id' < (st (j + 1)).c
            · rw [hin hi'] at g2b
              have q1 := hnew id' l' hi' g2b
              have q2 := iv.lt id l g1b
              omega
            · rw [hout hi'] at g2b
              exact hR.inj id id' l l' b (cutR_some.2 ⟨g1a, g1b⟩) (cutR_some.2 ⟨g2a, g2b⟩) g3 g4 g5
      · refine h3.mono (fun id l hl => ?_) (fun b vs t fr h => ⟨vs, fr, h, rfl⟩)
        obtain ⟨q1, q2⟩ := hsub1 id l hl
        exact cutR_some.2 ⟨q1, q2⟩
      · intro id l hl
        by_cases hi : (st j).c ≤ id ∧ id < (st (j + 1)).c
        · rw [hin hi] at hl
          obtain ⟨b, _, g, _⟩ := h1.blk id l hl
          exact g
        · rw [hout hi] at hl
          exact Nat.lt_of_lt_of_le (iv.lt id l hl) h2.size
end
theorem cnt_set : ∀ (l : List Bool) (j : Nat), l[j]? = some false → (l.set j true).countP (! ·) + 1 = l.countP (! ·)
  | [], j, h => by simp at h
  | b :: l, 0, h => by simp at h; subst h; simp
  | b :: l, j + 1, h => by
    have := cnt_set l j (by simpa using h)
    simp only [List.set_cons_succ, List.countP_cons]
    omega
theorem draw_ok (hgw : GW w0) (hck : CKok P gl GW ck) (hkk : CKK ck) (hn : n ≤ 1048576) : DrawOk P gl ck n mb w0 ro := by
  intro r ops Q ρ0 s s' a w ok hs hrun hQ
  obtain ⟨st, lst, g1, g0, g2, g3⟩ := runs_of ops.toList 0 _ hrun
  have hN : ops.toList.length = ops.size := by simp
  rw [Nat.zero_add, hN] at g2
  have tx : Tx P gl ck n ro ops st := ⟨fun j o ho => by
    have h3 : ∀ i o, ops[i]? = some o → lst (i + 1) = if free o = true then lst i else (st i).c := fun i o hi => by
      have := (g3 i o (by simpa using hi)).2
      rwa [Nat.zero_add] at this
    have := (g3 j o (by simpa using ho)).1
    rw [Nat.zero_add] at this
    have he : roV (fixed ops j o) (chainOf ops j o) ro (lst j) (st j).c = roAt ops ro st j o := by
      unfold roAt roV
      cases hfx : fixed ops j o with
      | true => rfl
      | false =>
        cases hch : chainOf ops j o with
        | none => rfl
        | some i => rw [lst_head h3 j (chain_spec hch).1]; rfl
    rw [← he]; exact this, by rw [g1]; exact hs.top, hkk, hn⟩
  have hD0 : Dom ρ0 (st 0).c := by rw [g1]; exact hs.dom
  have fin : ∀ {listed : Array Bool} {ρ : Rh} {a' : Act} {w' : World}, Inv gl n mb ro w0 ops st ρ0 { w with drawn := w.drawn + 1 } listed ρ a' w' → Region.ready .any ops listed = [] → Q .normal a' w' := by
    intro listed ρ a' w' iv hre
    have hall : ∀ m j, j < m → j < ops.size → listed.getD j false = true := by
      intro m
      induction m with
      | zero => intro j h; omega
      | succ m ih =>
        intro j h hj
        obtain ⟨o, ho⟩ := op_at (ops := ops) hj
        cases hx : listed.getD j false with
        | true => rfl
        | false =>
          have : j ∈ Region.ready .any ops listed := by
            refine mem_ready.2 ⟨?_, o, ho, fun e he hb => ?_⟩
            · have hjl : j < listed.size := by rw [iv.lsize]; exact hj
              simp [hjl] at hx ⊢; exact hx
            · have := upto_spec ok ho e he hb
              exact ih e.on (by omega) (by omega)
          rw [hre] at this; cases this
    have hdone : ∀ j, j < ops.size → listed.getD j false = true := fun j hj => hall (j + 1) j (by omega) hj
    have hdomN : Dom ρ (st ops.size).c := iv.ext.dom hD0
    have hr := iv.rel ops.size (Nat.le_refl _) fun k o hk _ => ⟨fun h => hdone k h, fun _ => (Array.getElem?_eq_some_iff.1 hk).1⟩
    rw [cutR_dom hdomN, g2] at hr
    refine hQ ρ a' w' ⟨iv.defers, iv.size, hr, by rw [← g2]; exact hdomN, by rw [← g2]; exact tx.top _ (Nat.le_refl _), iv.glob, iv.mbl, fun d => ?_⟩ ?_
    · obtain ⟨m, h1, h2, h3, h4⟩ := iv.tmps d
      have : (st ops.size).t.get d = (st m).t.get d := tx.slot h1 (Nat.le_refl _) fun k o hk k1 k2 hd => by
        have := (h3 k o hk hd).2 (hdone k k2); omega
      rw [← g2, this]
      exact h4.mono (fun id l h => (cutR_some.1 h).2) (fun b vs t fr h => ⟨vs, fr, h, rfl⟩)
    · have := iv.ext
      rw [g1, g2] at this
      exact ⟨this.sub, this.size, this.shape, this.os, this.tape, this.output, this.frame, this.fresh, this.le, this.cap⟩
  have main : ∀ (fuel : Nat) (listed : Array Bool) (ρ : Rh) (a' : Act) (w' : World), listed.toList.countP (! ·) = fuel → Inv gl n mb ro w0 ops st ρ0 { w with drawn := w.drawn + 1 } listed ρ a' w' → wpAnyIn (Fr r) 0 P .any ops Q fuel listed a' w' := by
    intro fuel
    induction fuel with
    | zero =>
      intro listed ρ a' w' hc iv
      have hre : Region.ready .any ops listed = [] := by
        cases hx : Region.ready .any ops listed with
        | nil => rfl
        | cons j l =>
          exfalso
          have hj : j ∈ Region.ready .any ops listed := by rw [hx]; exact List.mem_cons_self
          obtain ⟨h1, o, ho, _⟩ := mem_ready.1 hj
          have hjl : j < listed.size := by rw [iv.lsize]; exact (Array.getElem?_eq_some_iff.1 ho).1
          have h2 : listed.toList[j]? = some false := by simp [hjl] at h1 ⊢; exact h1
          have := List.countP_eq_zero.1 hc false (List.mem_of_getElem? h2)
          simp at this
      exact ⟨hre, fin iv hre⟩
    | succ fuel ih =>
      intro listed ρ a' w' hc iv
      refine ⟨fun hre => fin iv hre, fun j hj => ?_⟩
      obtain ⟨h1, o, ho, h3⟩ := mem_ready.1 hj
      have hjl : j < listed.size := by rw [iv.lsize]; exact (Array.getElem?_eq_some_iff.1 ho).1
      have h2 : listed.toList[j]? = some false := by simp [hjl] at h1 ⊢; exact h1
      have hD : ¬ listed.getD j false = true := by simp [hjl] at h1 ⊢; exact h1
      unfold wpOpIn
      rw [ho]
      dsimp only
      refine iv.step hgw hck tx ok ho hD h3 fun ρ' a'' w'' iv' => ih _ ρ' a'' w'' ?_ iv'
      have := cnt_set listed.toList j h2
      rw [Array.toList_setIfInBounds]
      omega
  refine main ops.size (Array.replicate ops.size false) ρ0 a _ (by simp [List.countP_replicate]) ?_
  have hf0 : ∀ k, ¬ (Array.replicate ops.size false).getD k false = true := fun k => by
    rw [Array.getD_eq_getD_getElem?, Array.getElem?_replicate]
    split <;> simp
  have hbel : RowKit.Below w0.heap.size w0 { w with drawn := w.drawn + 1 } := ⟨hs.rel.below.os, hs.rel.below.tape, hs.rel.below.output, hs.rel.below.size, hs.rel.below.block⟩
  have hcut : ∀ m, m ≤ ops.size → cutR ρ0 (st m).c = ρ0 := fun m hm => cutR_dom fun id l hl => Nat.lt_of_lt_of_le (hD0 id l hl) (tx.le (Nat.zero_le _) hm)
  refine ⟨hs.defers, hs.mbl, hs.size, by simp, fun j o _ h => absurd h (hf0 j), hs.glob, fun g hg => hD0 g _ (hs.glob g hg), fun id l hl => .inl (hD0 id l hl), fun id l hl => ?_, hbel, ?_, ?_, ?_, fun i j _ _ _ h => absurd h (hf0 i)⟩
  · obtain ⟨b, _, h, _⟩ := hs.rel.blk id l hl
    exact h
  · intro m hm hc
    rw [hcut m hm]
    have hr : Rel w0 ρ0 (st 0).h { w with drawn := w.drawn + 1 } := by
      rw [g1]
      exact hs.rel.still hbel (Nat.le_refl _) (fun _ _ => rfl)
    refine hr.heap fun id l hl => tx.keep (Nat.zero_le _) hm (fun k o hk _ k2 hfk => ?_) id (hD0 id l hl)
    exact hf0 k ((hc k o hk (hfk.mono (Nat.zero_le _))).1 k2)
  · intro d
    refine ⟨0, Nat.zero_le _, .inl rfl, fun k o _ _ => ⟨fun h => by omega, fun h => absurd h (hf0 k)⟩, ?_⟩
    rw [hcut 0 (Nat.zero_le _), g1]
    exact VR.mono (w := w) (w' := { w with drawn := w.drawn + 1 }) (ρ := ρ0) (ρ' := ρ0) (fun _ _ h => h) (fun b vs t fr h => ⟨vs, fr, h, rfl⟩) (hs.tmps d)
  · exact ⟨fun _ _ h => h, Nat.le_refl _, fun b vs t fr h => ⟨vs, fr, h, rfl⟩, rfl, rfl, rfl, fun _ _ _ => rfl, fun _ _ h => .inl h, tx.le (Nat.zero_le _) (Nat.le_refl _), fun _ => tx.top _ (Nat.le_refl _)⟩
end
end Go.Ex
namespace Go.Ex
section
variable {P : Program} {gl : Nat → Bool} {GW : World → Prop} {ck : CallK}
theorem args_get : ∀ (l : List V) (k : Nat) (t : Tr V) (i : Nat), k + l.length ≤ 1048576 → (args l k t).get i = if k ≤ i ∧ i < k + l.length then l[i - k]? else t.get i
 | [], k, t, i, _ => by
  rw [if_neg (by simp)]; rfl
 | v :: l, k, t, i, h => by
  simp only [List.length_cons] at h;show (args l (k + 1) (Tr.set t k v)).get i = _;rw [args_get l (k + 1) _ i (by omega), get_set (by omega)]
  by_cases h1 : i = k
  ·subst h1;rw [if_neg (by omega), if_pos rfl, if_pos (by simp)]
   simp
  ·by_cases h2 : k + 1 ≤ i ∧ i < k + 1 + l.length
   ·rw [if_pos h2, if_pos (by simp only [List.length_cons]; omega)];rw [show i - k = (i - (k + 1)) + 1 by omega, List.getElem?_cons_succ]
   ·rw [if_neg h2, if_neg h1, if_neg (by simp only [List.length_cons]; omega)]
theorem vl_get {w : World} {ρ : Rh} : ∀ {l : List V} {us : List Value} (i : Nat), VL w ρ l us → VR w ρ (tmpV l[i]?) (us[i]?.getD undef)
 | _, _, i, .nil => .lit undef
 | _, _, 0, .cons h _ => h
 | _, _, i + 1, .cons _ k => vl_get i k
theorem res_ok {w0 : World} {n mb : Nat} {ρ : Rh} {s : S} {a : Act} {w : World} (hs : SR w0 gl n mb ρ s a w) {rv : ResultVar} {v : V} (h : resV P s rv = some v) : ∃ u, (Sim.rvSem a.tmps rv).run P w = .ok u w ∧ VR w ρ v u := by
 cases rv with
 | tmp t =>
  simp only [resV, Option.some.injEq] at h;subst h;exact ⟨_, rfl, hs.tmps t⟩
 | cell t ty =>
  simp only [resV] at h
  split at h
  ·rename_i id off ht
   have := hs.tmps t;rw [ht] at this;generalize hu : a.tmps.getD t undef = u at this
   cases this with
   | @ptr _ _ l hl =>
    split at h
    ·rename_i lst hb
     obtain ⟨u, h1, h2⟩ := loadC_ok hs.rel hl hb h;exact ⟨u, by simp [Sim.rvSem, hu, asAddr, h1], h2⟩
    ·cases h
  ·cases h
theorem resL_ok {w0 : World} {n mb : Nat} {ρ : Rh} {s : S} {a : Act} {w : World} (hs : SR w0 gl n mb ρ s a w) : ∀ {l : List ResultVar} {vs : List V}, resL P s l = some vs → ∃ us : List Value, (l.mapM (Sim.rvSem a.tmps)).run P w = .ok us w ∧ VL w ρ vs us
 | [], vs, h => by simp only [resL, Option.some.injEq] at h; subst h; exact ⟨[], by simp, .nil⟩
 | r :: l, vs, h => by
  simp only [resL] at h
  split at h
  ·rename_i v vs' h1 h2
   simp only [Option.some.injEq] at h;subst h;obtain ⟨u, g1, g2⟩ := res_ok hs h1;obtain ⟨us, g3, g4⟩ := resL_ok hs h2;exact ⟨u :: us, by simp [List.mapM_cons, g1, g3], .cons g2 g4⟩
  ·cases h
theorem resO_ok {w0 : World} {n mb : Nat} {ρ : Rh} {s : S} {a : Act} {w : World} {fn : Func} {r : V × H × Nat} (hs : SR w0 gl n mb ρ s a w) (h : resO s.h s.c (resL P s fn.results.toList) fn.name = .ok r) : r.2 = (s.h, s.c) ∧ ∃ u, (results fn a.tmps).run P w = .ok u w ∧ VR w ρ r.1 u := by
 cases hl : resL P s fn.results.toList with
 | none => rw [hl] at h; cases h
 | some vs =>
  rw [hl] at h;obtain ⟨us, h1, h2⟩ := resL_ok hs hl;have hlen := h2.length
  have hr : (results fn a.tmps).run P w = .ok (if h : us.toArray.size = 1 then us.toArray[0] else .tuple us.toArray) w := by
   rw [Sim.results_eq, Array.mapM_eq_mapM_toList];simp only [Sem.run_bind, Sem.run_map, h1, Result.andThen_ok, Sem.run_pure]
  cases h2 with
  | nil => cases h; exact ⟨rfl, _, hr, .tup .nil⟩
  | cons g k =>
   cases k with
   | nil => cases h; exact ⟨rfl, _, hr, g⟩
   | cons g2 k2 => cases h; exact ⟨rfl, _, by rw [hr, dif_neg (by simp)], .tup (.cons g (.cons g2 k2))⟩
def OrcOk (P : Program) (gl : Nat → Bool) (GW : World → Prop) (orc : Orc) : Prop := ∀ f as h c ro v h' c', orc f as h c ro = some (v, h', c') → Sim.Known P f ∧
  ∀ w0 ρ w (args : List Value), GW w0 → Rel w0 ρ h w → Dom ρ c → c ≤ 1048576 → (∀ g, gl g = true → ρ g = some ⟨g, 0⟩) → VL w ρ as args →
   Calls P f args.toArray w (Left w0 ro c ρ w v h' c')
theorem Rel.other {w0 : World} {ρ : Rh} {h : H} {w w' : World} {D : Nat} (hr : Rel w0 ρ h w) (t : Turn w D w') (hno : ∀ id l, ρ id = some l → l.b ≠ D) (hD : w0.heap.size ≤ D) : Rel w0 ρ h w' where
 below := RowKit.Below.trans hr.below ⟨t.os, t.tape, t.output, by rw [t.size]; exact Nat.le_refl _, fun k hk => t.other k (by omega)⟩
 blk := fun id l hl => by
  obtain ⟨b, h1, h2, h3, h4⟩ := hr.blk id l hl;exact ⟨b, h1, by rw [t.size]; exact h2, BR.mono (fun _ _ h => h) t.shapes h3 (t.other _ (hno id l hl)), h4⟩
 inj := hr.inj
theorem leaves_ok {w0 : World} {n ro c : Nat} {ρ ρ' : Rh} {s' : S} {w : World} {fn : Func} {tmps : Array Value} {v : V} {h' : H} {c' : Nat} (hw0 : w0.heap.size ≤ w.heap.size) (hres : resO s'.h s'.c (resL P s' fn.results.toList) fn.name = .ok (v, h', c')) :
  ∀ (ds : List Deferred) (w1 : World), SR w0 gl n w.heap.size ρ' s' { tmps := tmps, defers := ds } w1 → Ext ro c ρ w ρ' w1 s'.c → LeavesInM Fence.wide 0 P fn tmps (Left w0 ro c ρ w v h' c') ds .returning w1
 | [], w1, hs, he => by
  obtain ⟨k1, u, k2, k3⟩ := resO_ok hs hres;simp only [Prod.mk.injEq] at k1;obtain ⟨rfl, rfl⟩ := k1;exact ⟨u, k2, u, ρ', rfl, hs.rel, he, k3⟩
 | d :: ds, w1, hs, he => by
  obtain ⟨D, rfl, hlt, hD, hno⟩ := hs.defers.2 _ List.mem_cons_self;obtain ⟨hn1, hn2⟩ := List.nodup_cons.1 hs.defers.1;refine ⟨by simp, .inl ⟨D, _, rfl, run_takeDeferred hD, ?_⟩⟩;have htn := putObj_turn (o' := .deferred none) hD (by simp);refine leaves_ok hw0 hres ds _ ⟨⟨hn2, fun d' hd' => ?_⟩, hs.size, hs.rel.other htn hno (by omega), hs.dom, hs.top, hs.glob, by rw [htn.size]; exact hs.mbl, fun i => VR.mono (fun _ _ h => h) htn.shapes (hs.tmps i)⟩ (he.fresh_turn htn hlt);obtain ⟨D', rfl, hlt', hD', hno'⟩ := hs.defers.2 d' (List.mem_cons_of_mem _ hd');exact ⟨D', rfl, hlt', (World.putObj_heap_other (fun e => hn1 (by rw [← e]; exact hd'))).trans hD', hno'⟩
theorem yield_ok {n : Nat} (mo : P.follows .mixedOrders = true) (hck : CKok P gl GW ck) (hkk : CKK ck) {id : Nat} {as : List V} {h : H} {c ro : Nat} {v : V} {h' : H} {c' : Nat} (hh : yieldStep P gl ck id as h c ro = .ok (v, h', c'))
  {w0 : World} {ρ : Rh} {w : World} {args : List Value} {l : Loc} (hgw : GW w0) (hr : Rel w0 ρ h w) (hd : Dom ρ c) (hct : c ≤ 1048576) (hg : ∀ g, gl g = true → ρ g = some ⟨g, 0⟩) (hl : ρ id = some l) (hv : VL w ρ as args) : Yields P l.b args.toArray w (Left w0 ro c ρ w v h' c') := by
 unfold yieldStep at hh
 split at hh
 ·rename_i x nn t p asg body st pd hgl
  cases hro : Nat.ble ro id with
  | false => rw [hro] at hh; cases hh
  | true =>
   rw [hro, cond_true] at hh;have hro := Nat.le_of_ble_eq_true hro;have hid := hd id l hl;obtain ⟨bb, q1, q2, q3, q4⟩ := hr.blk id l hl;rw [hgl] at q1
   cases q1
   obtain ⟨r, r1, r2, r3, r4, r5, r6, r7, r8, r9, r10, r11⟩ := q3
   cases hv with
   | @cons _ u _ _ hx htl =>
    cases htl
    have hyl := run_yield (P := P) (args := #[u]) r1 (by rw [r5]; rfl);refine ⟨_, _, _, _, hyl, ?_⟩
    have hfold : ((r.params.zip #[u]).foldl (fun tmps (t, a) => tmps.setIfInBounds t a) r.tmps) = (({ tmps := r.tmps, defers := [] } : Act).put (some p) u).tmps := by rw [r5]; simp [Act.put]
    rw [hfold, r6, r7];refine roundIn_of_wpIn trivial ?_
    have hs : SR w0 gl nn w.heap.size ρ ⟨Tr.setP x (path p) t, h, c⟩ { tmps := (({ tmps := r.tmps, defers := [] } : Act).put (some p) u).tmps, defers := [] } w := by
     refine ⟨DefOk.nil, by rw [Sim.size_put]; exact r8, hr, hd, hct, hg, Nat.le_refl _, fun i => ?_⟩;show VR w ρ (tmpV ((Tr.setP x (path p) t).get i)) ((({ tmps := r.tmps, defers := [] } : Act).put (some p) u).tmps.getD i undef);rw [Sim.getD_put _ _ _ (fun d' h => by cases h; show p < r.tmps.size; rw [r8]; exact r9)];have hgs : (Tr.setP x (path p) t).get i = if i = p then some x else t.get i := get_set (t := t) (m := i) (by omega);rw [hgs]
     by_cases hi : i = p
     ·subst hi; simp only [if_true]; exact hx
     ·rw [if_neg hi, if_neg (fun e => hi (by cases e; rfl))];exact r11 i
    unfold roundBody at hh
    split at hh
    ·rename_i s1 h1
     have hcode := fun (c0 : Code) => code_ok (n := nn) (mb := w.heap.size) (ro := ro) (w0 := w0) mo r10 hgw hck (draw_ok hgw hck hkk r10) true c0;refine wpIn_mono (hcode asg (some l.b) (fun h => by cases h) hs h1) ?_;rintro e a1 w1 ⟨rfl, ρ1, g1, g2⟩
     split at hh
     ·rename_i n1 t1 p1 as1 b1 pd1 hgl1
      have hl1 := g2.sub _ _ hl;obtain ⟨bb1, y1, y2, y3, y4⟩ := g1.rel.blk id l hl1;rw [hgl1] at y1
      cases y1
      obtain ⟨r', z1, z2, z3, z4, z5, z6, z7, z8, z9, z10, z11⟩ := y3;refine ⟨_, run_beginRound z1 z3, ?_⟩;have ht1 := putObj_turn (o' := .loop { r' with state := .busy }) z1 (by simp)
      have hs2 : SR w0 gl nn w.heap.size ρ1 ⟨s1.t, hset s1.h id (.loop n1 t1 p1 as1 b1 .busy pd1), s1.c⟩ a1 (w1.putObj l.b (.loop { r' with state := .busy })) := by
       refine ⟨g1.defers.turn ht1 hl1 rfl, g1.size, rel_turn g1.rel ht1 hl1 hgl1 rfl rfl (by omega) ⟨_, World.putObj_heap_same (Array.getElem?_eq_some_iff.1 z1).1, z2, rfl, z4, z5, z6, z7, z8, z9, z10, fun i => VR.mono (fun _ _ h => h) ht1.shapes (z11 i)⟩, g1.dom, g1.top, g1.glob, by rw [ht1.size]; exact g1.mbl, fun i => VR.mono (fun _ _ h => h) ht1.shapes (g1.tmps i)⟩
      have he2 : Ext ro c ρ w ρ1 (w1.putObj l.b (.loop { r' with state := .busy })) s1.c := g2.trans (ext_turn ht1 hl1 hro);unfold roundEnd at hh
      split at hh
      ·cases hh
      ·rename_i x2 s2 h2
       refine wpIn_mono (hcode body (some l.b) (fun h => by cases h) hs2 h2) ?_;rintro e a2 w2 ⟨rfl, ρ2, g3, g4⟩;have he3 := he2.trans g4;have hl2 := he3.sub _ _ hl
       split at hh
       ·rename_i n2 t2 p2 as2 b2 st2 pd2 hgl2
        obtain ⟨bb2, y1, y2, y3, y4⟩ := g3.rel.blk id l hl2;rw [hgl2] at y1
        cases y1
        obtain ⟨r2', z1, z2, z3, z4, z5, z6, z7, z8, z9, z10, z11⟩ := y3;have fin : ∀ (jump : Option Code) (st3 : LoopState) (bv : Bool), (if jump.isNone = true then LoopState.ready else .done) = st3 → jump.isNone = bv → Re.ok (V.lit (.bool bv), hset s2.h id (.loop n2 t2 p2 as2 b2 st3 jump), s2.c) = .ok (v, h', c') →
          ∃ v1 w', (Instr.endRound l.b jump).run P w2 = .ok v1 w' ∧ Left w0 ro c ρ w v h' c' (.returned v1) w' := by
         intro jump st3 bv e1 e2 e3
         cases e3
         have ht2 := putObj_turn (o' := .loop { r2' with state := if jump.isNone then .ready else .done, pending := jump }) z1 (by simp);refine ⟨_, _, run_endRound jump z1, _, ρ2, rfl, rel_turn g3.rel ht2 hl2 hgl2 rfl rfl (by omega) ⟨_, World.putObj_heap_same (Array.getElem?_eq_some_iff.1 z1).1, z2, e1, rfl, z5, z6, z7, z8, z9, z10, fun i => VR.mono (fun _ _ h => h) ht2.shapes (z11 i)⟩, he3.trans (ext_turn ht2 hl2 hro), ?_⟩;rw [e2]; exact .lit _
        cases e with
        | normal => exact fin none .ready true rfl rfl hh
        | ret => exact fin (some .ret) .done false rfl rfl hh
        | exit i => exact fin (some (.exit i)) .done false rfl rfl hh
        | _ => cases hh
       ·cases hh
     ·cases hh
    ·cases hh
    ·cases hh
 ·cases hh
theorem call_ok {orc : Orc} (mo : P.follows .mixedOrders = true) (horc : OrcOk P gl GW orc) (hok : OrcK orc) : ∀ n, CKok P gl GW (call P gl orc n)
 | 0 => ⟨fun f as h c ro v h' c' hh => (by cases hh), fun f as h c ro v h' c' hh => (by cases hh)⟩
 | n + 1 => by
  have hck := call_ok mo horc hok n;refine ⟨fun f as h c ro v h' c' hh => ?_, fun id as h c ro v h' c' hh w0 ρ w args l hgw hr hd hct hg hl hv => yield_ok (n := n) mo hck (call_k hok n) hh hgw hr hd hct hg hl hv⟩;have hh2 : callStep P gl orc (call P gl orc n) (.fn f) as h c ro = .ok (v, h', c') := hh;unfold callStep at hh2;dsimp only at hh2
  cases ho : orc f as h c ro with
  | some r =>
   rw [ho] at hh2
   cases hh2
   exact horc f as h c ro v h' c' ho
  | none =>
   rw [ho] at hh2;dsimp only at hh2;unfold compF at hh2
   cases hf : P.funcs[f]? with
   | none => rw [hf] at hh2; cases hh2
   | some fn =>
    rw [hf] at hh2;dsimp only at hh2
    split at hh2
    ·rename_i b hnm hb hnt
     dsimp only at hh2
     cases hle : Nat.ble as.length fn.ntmps with
     | false => rw [hle] at hh2; cases hh2
     | true =>
      rw [hle, cond_true] at hh2;have hle := Nat.le_of_ble_eq_true hle;have hnt' : fn.ntmps < 65536 := Nat.le_of_ble_eq_true hnt;refine ⟨⟨fn, hf, by rw [hb]; rfl, hnm⟩, ?_⟩;intro w0 ρ w argv hgw hr hd hct hg hv;have hlen := hv.length
      suffices hci : CallsIn Fence.wide 0 P f argv.toArray w (Left w0 ro c ρ w v h' c') from callsIn_wide.1 hci
      refine callsIn_of_wp_marks hf hb trivial ?_ rfl
      have hs : SR w0 gl fn.ntmps w.heap.size ρ ⟨args as 0 .nil, h, c⟩ { tmps := argv.toArray ++ Array.replicate (fn.ntmps - argv.toArray.size) undef, defers := [] } w := by
       refine ⟨DefOk.nil, by simp; omega, hr, hd, hct, hg, Nat.le_refl _, fun i => ?_⟩;show VR w ρ (tmpV ((args as 0 .nil).get i)) _;rw [args_get as 0 _ i (by omega)];rw [Array.getD_eq_getD_getElem?];rw [show (argv.toArray ++ Array.replicate (fn.ntmps - argv.toArray.size) undef) = (argv ++ List.replicate (fn.ntmps - argv.length) undef).toArray by simp];rw [List.getElem?_toArray]
       by_cases hi : i < as.length
       ·rw [if_pos (by omega), Nat.sub_zero, List.getElem?_append_left (by omega)];exact vl_get i hv
       ·rw [if_neg (by omega), List.getElem?_append_right (by omega), List.getElem?_replicate];have : (Tr.nil : Tr V).get i = none := getP_nil _;rw [this]
        split <;> exact .lit undef
      unfold endC at hh2
      cases hc : (compC P gl false fn.ntmps (call P gl orc n) b).run ro ⟨args as 0 .nil, h, c⟩ with
      | no why => rw [hc] at hh2; cases hh2
      | ok xs =>
       obtain ⟨x, s'⟩ := xs;rw [hc] at hh2;refine wpIn_mono (code_ok mo (by omega) hgw hck (draw_ok hgw hck (call_k hok n) (by omega)) false b none (fun _ => rfl) hs hc) ?_;rintro e a' w' ⟨rfl, ρ', g1, g2⟩
       cases e with
       | normal => exact leaves_ok hr.below.size hh2 a'.defers w' g1 g2
       | ret => exact leaves_ok hr.below.size hh2 a'.defers w' g1 g2
       | _ => cases hh2
    ·cases hh2
end
end Go.Ex
namespace Go.Ex
section
theorem gcells_get {w : World} {M : Nat → Prop} {g : Nat} : ∀ {vs : List Value} {o : Nat} (_ : Sim.Cells w M g o (vs.map Sim.G.lit)) (i : Nat) (v : Value), vs[i]? = some v → w.cell? ⟨g, o + i, none⟩ = some v ∧ v.oneCell' = true
 | [], _, _, i, v, h => by simp at h
 | x :: vs, o, ⟨⟨u, h1, h2, h3⟩, h4⟩, 0, v, h => by
  simp at h; subst h
  have : u = x := h2;subst this;exact ⟨h1, h3⟩
 | x :: vs, o, ⟨_, h4⟩, i + 1, v, h => by
  have := gcells_get h4 i v (by simpa using h);rw [show o + (i + 1) = o + 1 + i by omega]; exact this
theorem br_fix {w : World} {M : Nat → Prop} {g : Nat} {ρ : Rh} {vs : List Value} (hne : vs ≠ []) (h : Sim.Cells w M g 0 (vs.map Sim.G.lit)) : BR w ρ ⟨g, 0⟩ (.fix (vs.map .lit)) := by
 obtain ⟨us, t, fr, hb⟩ : ∃ us t fr, w.heap[g]? = some (.cells us t fr) := by
  cases vs with
  | nil => exact absurd rfl hne
  | cons x vs =>
   obtain ⟨h1, _⟩ := gcells_get h 0 x rfl;unfold World.cell? at h1;dsimp only at h1
   split at h1
   ·rename_i c t fr hc; exact ⟨c, t, fr, hc⟩
   ·cases h1
 have hget : ∀ i v, vs[i]? = some v → us.toList[i]? = some v := fun i v hv => by
  obtain ⟨h1, _⟩ := gcells_get h i v hv;unfold World.cell? at h1;rw [Nat.zero_add] at h1;simp only [hb] at h1;rw [Array.getElem?_toList]
  simpa using h1
 have hlen : vs.length ≤ us.toList.length := by
  rcases Nat.lt_or_ge us.toList.length vs.length with hl | hl
  ·have := hget us.toList.length vs[us.toList.length] (List.getElem?_eq_getElem hl);rw [List.getElem?_eq_none (Nat.le_refl _)] at this
   cases this
  ·exact hl
 refine ⟨us, t, fr, hb, by simpa using hlen, ?_⟩
 have : (us.toList.drop 0).take (vs.map V.lit).length = vs := by
  apply List.ext_getElem?
  intro i;rw [List.drop_zero, List.length_map, List.getElem?_take]
  split
  ·rename_i hi
   rw [List.getElem?_eq_getElem hi];exact hget i _ (List.getElem?_eq_getElem hi)
  ·rw [List.getElem?_eq_none (by omega)]
 rw [this]
 exact VC.lits fun v hv => by
  obtain ⟨i, hi⟩ := List.getElem?_of_mem hv;exact (gcells_get h i v hi).2
theorem lits_vl {w : World} {ρ : Rh} : ∀ (vs : List Value), VL w ρ (vs.map .lit) vs
 | [] => .nil
 | v :: vs => .cons (.lit v) (lits_vl vs)
theorem fits_lits {w : World} {M : Nat → Prop} : ∀ {vs us : List Value}, Sim.FitsT w M (vs.map Sim.G.lit) us → us = vs
 | [], [], _ => rfl
 | v :: vs, u :: us, h => by rw [show u = v from h.1, fits_lits h.2]
 | [], _ :: _, h => h.elim
 | _ :: _, [], h => h.elim
def GWof (E : Sim.Env) (w : World) : Prop := Sim.GlOk E w fun _ => False
theorem gw_of {E : Sim.Env} {w : World} {M : Nat → Prop} (h : Sim.GlOk E w M) : GWof E w := fun g vs hg => ⟨⟨fun h => h, (h g vs hg).1.2⟩, (h g vs hg).2.mono (fun _ _ _ => rfl) (fun _ _ h => h.elim) (h g vs hg).1.1⟩
theorem con_of_call {E : Sim.Env} {gl : Nat → Bool} {orc : Orc} {h0 : H} {c0 ro n : Nat} {f : FuncId} {vs : List Value} {v : Value} {h' : H} {c' : Nat} (horc : OrcOk E.P gl (GWof E) orc) (hok : OrcK orc)
  (hc0 : c0 ≤ 1048576) (hg : ∀ g, gl g = true → g < c0 ∧ ∃ vs, vs ≠ [] ∧ (g, vs) ∈ E.gl ∧ h0.get g = some (.fix (vs.map .lit)))
  (hrun : call E.P gl orc n (.fn f) (vs.map .lit) h0 c0 ro = .ok (.lit v, h', c')) : Sim.Con E f (vs.map Sim.G.lit) (.lit v) := by
 intro w M us hM hgl hv;have := fits_lits hv;subst this
 let ρ : Rh := fun g => if gl g = true then some ⟨g, 0⟩ else none
 have hρ : ∀ {g : Nat} {l : Loc}, ρ g = some l → gl g = true ∧ l = ⟨g, 0⟩ := by
  intro g l h
  by_cases hgg : gl g = true
  ·rw [show ρ g = some ⟨g, 0⟩ from if_pos hgg] at h;exact ⟨hgg, (Option.some.inj h).symm⟩
  ·rw [show ρ g = none from if_neg hgg] at h; cases h
 have hw := gw_of hgl
 have hr : Rel w ρ h0 w := by
  refine ⟨Sim.Grow.refl w, fun id l hl => ?_, fun id id' l l' b h1 h2 h3 h4 h5 => ?_⟩
  ·obtain ⟨g1, rfl⟩ := hρ hl;obtain ⟨g2, vs, g3, g4, g5⟩ := hg id g1;exact ⟨_, g5, (hw id vs g4).1.2, br_fix g3 (hw id vs g4).2, fun h => by cases h⟩
  ·obtain ⟨g1, rfl⟩ := hρ h1;obtain ⟨g1', rfl⟩ := hρ h2;exact .inl h3
 obtain ⟨_, H⟩ := (call_ok E.orders horc hok n).fn f _ h0 c0 ro _ h' c' hrun;refine (H w ρ w us hw hr (fun id l hl => (hg id (hρ hl).1).1) hc0 (fun g h => if_pos h) (lits_vl us)).mono ?_;rintro e w' ⟨u, ρ', rfl, h1, h2, h3⟩;exact ⟨u, rfl, h1.below, h3.lit_inv⟩
theorem orc_none {E : Sim.Env} {gl : Nat → Bool} : OrcOk E.P gl (GWof E) (fun _ _ _ _ _ => none) := fun f as h c ro v h' c' e => by cases e
theorem orcK_none : OrcK (fun _ _ _ _ _ => none) := fun f as h c ro v h' c' e => by cases e
end
end Go.Ex
