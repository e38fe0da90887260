/-
  What is proved: from the reading of an argument to the form of its cells.
-/
import Derived.Test.YtdfgeoefbbkcnaaGreatDoorVaA4
import Derived.ProofKit
set_option linter.unusedSectionVars false
set_option linter.unusedSimpArgs false
set_option linter.unusedVariables false
set_option linter.unnecessarySimpa false
set_option linter.deprecated false
namespace Go.Sim
inductive Sh where
 | int | str | bool
 | sl (l : List Sh)
inductive Is : List Sh → List G → Prop
 | nil : Is [] []
 | int {l : List Sh} {gs : List G} (n : Int) (h : Is l gs) : Is (.int :: l) (G.int n :: gs)
 | str {l : List Sh} {gs : List G} (s : ByteArray) (h : Is l gs) : Is (.str :: l) (G.str s :: gs)
 | bool {l : List Sh} {gs : List G} (b : Bool) (h : Is l gs) : Is (.bool :: l) (G.bool b :: gs)
 | sl {l : List Sh} {gs : List G} {k : Nat} {m : List Sh} {xs : List (List G)} (hk : k = m.length) (hx : ∀ c ∈ xs, Is m c) (h : Is l gs) : Is (.sl m :: l) (G.sl k xs :: gs)
theorem Is.length {l : List Sh} {gs : List G} (h : Is l gs) : gs.length = l.length := by
 induction h <;> simp_all
theorem Is.append {l m : List Sh} {gs hs : List G} (h : Is l gs) (k : Is m hs) : Is (l ++ m) (gs ++ hs) := by
 induction h with
 | nil => exact k
 | int n _ ih => exact .int n ih
 | str s _ ih => exact .str s ih
 | bool b _ ih => exact .bool b ih
 | sl hk hx _ _ ih => exact .sl hk hx ih
theorem qfd {α : Type} {f : α → List G} : ∀ {xs : List (List G)}, (∀ c ∈ xs, ∃ x, c = f x) → ∃ l : List α, xs = l.map f
 | [], _ => ⟨[], rfl⟩
 | c :: xs, h => by
  obtain ⟨x, rfl⟩ := h _ (List.mem_cons_self ..)
  obtain ⟨l, rfl⟩ := qfd fun c hc => h c (List.mem_cons_of_mem _ hc)
  exact ⟨x :: l, rfl⟩
def fieldsSh (P : Program) (rec : TypeId → Option (List Sh)) : List Field → Nat → Nat → Option (List Sh)
 | [], o, tot => if o = tot then some [] else none
 | f :: fs, o, tot => if f.offset = o then (match rec f.type with
  | some l => if l.length = P.cellsOf f.type then (match fieldsSh P rec fs (o + l.length) tot with | some r => some (l ++ r) | none => none) else none
  | none => none) else none
def shOf (P : Program) : Nat → TypeId → Option (List Sh)
 | 0, _ => none
 | n + 1, t => match P.underlying t with
  | some (.int .i64) => some [.int]
  | some .string => some [.str]
  | some .bool => some [.bool]
  | some (.slice e) => match shOf P n e with
   | some l => if l.length = P.cellsOf e then some [.sl l] else none
   | none => none
  | some (.struct fs) => fieldsSh P (shOf P n) fs.toList 0 (P.cellsOf t)
  | _ => none
section
variable {H : Type} {enc : TypeId × Value → H} {P : Program} {w : World} {base : Nat} {spare : Nat → Bool} {held : Bool}
theorem qkb {M : Nat → Prop} : ∀ {gs : List G} {vs : List Value} {gs' : List G} {vs' : List Value}, Fits w M gs vs → Fits w M gs' vs' → Fits w M (gs ++ gs') (vs ++ vs')
 | [], [], _, _, _, h => h
 | _ :: _, _ :: _, _, _, h, k => ⟨h.1, qkb h.2 k⟩
 | [], _ :: _, _, _, h, _ => h.elim
 | _ :: _, [], _, _, h, _ => h.elim
theorem qkc {M : Nat → Prop} : ∀ {gs : List G} {vs : List Value}, Fits w M gs vs → vs.length = gs.length
 | [], [], _ => rfl
 | _ :: _, _ :: _, h => by simp [qkc h.2]
 | [], _ :: _, h => h.elim
 | _ :: _, [], h => h.elim
theorem qg4 {M : Nat → Prop} {b : Nat} : ∀ {gs gs' : List G} {o : Nat}, Cells w M b o gs → Cells w M b (o + gs.length) gs' → Cells w M b o (gs ++ gs')
 | [], _, _, _, k => k
 | g :: gs, gs', o, h, k => ⟨h.1, qg4 h.2 (by rw [show o + 1 + gs.length = o + (g :: gs).length by simp; omega]; exact k)⟩
theorem qbe {M : Nat → Prop} {b : Nat} : ∀ {gs : List G} {vs : List Value} {o : Nat}, Fits w M gs vs → (∀ i, i < vs.length → w.cell? ⟨b, o + i, none⟩ = vs[i]?) → Cells w M b o gs
 | [], [], _, _, _ => trivial
 | g :: gs, v :: vs, o, h, k => ⟨⟨v, by simpa using k 0 (by simp), h.1.1, h.1.2⟩, qbe h.2 fun i hi => by
   have := k (i + 1) (by simpa using hi)
   rw [show o + 1 + i = o + (i + 1) by omega, this]; rfl⟩
 | [], _ :: _, _, h, _ => h.elim
 | _ :: _, [], _, h, _ => h.elim
theorem qfe {k : Nat} : ∀ {xs : List (List G)}, (∀ c ∈ xs, c.length = k) → xs.flatten.length = xs.length * k
 | [], _ => by simp
 | c :: xs, h => by
  rw [List.flatten_cons, List.length_append, h c (List.mem_cons_self ..), qfe fun c hc => h c (List.mem_cons_of_mem _ hc), List.length_cons, Nat.succ_mul, Nat.add_comm]
def Reads (H : Type) (enc : TypeId × Value → H) (P : Program) (w : World) (base : Nat) (spare : Nat → Bool) (held : Bool) (t : TypeId) (l : List Sh) : Prop :=
 ∀ fuel cs x, DataW.trod enc P w base spare held fuel t cs = some x → ∃ gs, Is l gs ∧ Fits w (fun _ => False) gs cs
theorem qd6 {t e : TypeId} {l : List Sh} (ht : P.underlying t = some (.slice e)) (hl : l.length = P.cellsOf e) (ih : Reads H enc P w base spare held e l) {fuel : Nat} {cs : List Value} {x : DataW H × List MemPlace}
  (h : DataW.trod enc P w base spare held fuel t cs = some x) :
  ∃ xs : List (List G), (∀ c ∈ xs, Is l c) ∧ Fits w (fun _ => False) [G.sl l.length xs] cs ∧ (xs = [] ∨ ∃ elems rest, x.1 = .slice elems rest ∧ elems.length = xs.length) := by
 rcases DataW.trod_slice ht h with ⟨rfl, rfl⟩ | ⟨a, len, cap, elems, rest, n, _, rfl, rfl, _, hlc, hcm, hlen, hel, _, _⟩
 ·exact ⟨[], by simp, ⟨⟨⟨none, 0, rfl, Nat.le_refl _, by simp, by simp, .inl ⟨rfl, fun _ => rfl⟩⟩, rfl⟩, trivial⟩, .inl rfl⟩
 ·have hsp : 0 < len → l.length ≠ 0 → a.spot = none := by
   intro hp hz
   have h5 := hel 0 hp
   rw [List.getElem?_eq_getElem (by omega), Option.bind_eq_some_iff] at h5
   obtain ⟨csm, h6, _⟩ := h5
   obtain ⟨_, g1, g2⟩ := World.cells?_some h6
   have c0 := g2 0 (by omega)
   rw [List.getElem?_eq_getElem (by omega)] at c0
   unfold World.cell? at c0
   split at c0
   ·split at c0
    ·cases c0
    ·rename_i hs
     simpa [Addr.add] using hs
   ·cases c0
  have key : ∀ m, m ≤ len → ∃ xs : List (List G), xs.length = m ∧ (∀ c ∈ xs, Is l c) ∧ Cells w (fun _ => False) a.block a.off xs.flatten := by
   intro m
   induction m with
   | zero => intro _; exact ⟨[], rfl, by simp, trivial⟩
   | succ m im =>
    intro hm
    obtain ⟨xs, h1, h2, h4⟩ := im (by omega)
    have h5 := hel m (by omega)
    rw [List.getElem?_eq_getElem (by omega), Option.bind_eq_some_iff] at h5
    obtain ⟨csm, h6, h7⟩ := h5
    obtain ⟨gs, h8, h9⟩ := ih _ _ _ h7
    obtain ⟨_, g1, g2⟩ := World.cells?_some h6
    have gl := qkc h9
    have hx := h8.length
    have hk : ∀ c ∈ xs, c.length = l.length := fun c hc => (h2 c hc).length
    have fl := qfe hk
    refine ⟨xs ++ [gs], by simp [h1], ?_, ?_⟩
    ·intro c hc
     rcases List.mem_append.1 hc with hc | hc
     ·exact h2 c hc
     ·rw [List.mem_singleton.1 hc]; exact h8
    ·rw [List.flatten_append]
     refine qg4 h4 ?_
     rw [List.flatten_cons, List.flatten_nil, List.append_nil]
     by_cases hz : l.length = 0
     ·rw [List.eq_nil_of_length_eq_zero (hx.trans hz)]; trivial
     ·have hs := hsp (by omega) hz
      refine qbe h9 fun i hi => ?_
      have ci := g2 i (by omega)
      rw [← ci, fl, h1, hl]
      congr 1
      obtain ⟨ab, ao, as_⟩ := a
      subst hs
      simp only [Addr.add]
      split <;> split <;> simp_all
  obtain ⟨xs, h1, h2, h4⟩ := key len (Nat.le_refl _)
  refine ⟨xs, h2, ⟨⟨⟨some a, cap, by rw [h1], by omega, hcm, fun c hc => (h2 c hc).length, ?_⟩, rfl⟩, trivial⟩, .inr ⟨_, _, rfl, by simp [hlen, h1]⟩⟩
  by_cases hz : len = 0 ∨ l.length = 0
  ·refine .inl ⟨List.eq_nil_of_length_eq_zero ?_, fun e => by cases e⟩
   rw [qfe fun c hc => (h2 c hc).length, h1]
   rcases hz with hz | hz <;> simp [hz]
  ·refine .inr ⟨a.block, a.off, ?_, fun h => h, h4⟩
   have := hsp (by omega) (by omega)
   cases a; simp_all
theorem qc9 {n : Nat} (ih : ∀ t l, shOf P n t = some l → Reads H enc P w base spare held t l) : ∀ (fs : List Field) (o tot : Nat) (l : List Sh), fieldsSh P (shOf P n) fs o tot = some l →
  ∀ (fuel : Nat) (cs : List Value), cs.length = tot → (∀ f ∈ fs, ∃ y, DataW.trod enc P w base spare held fuel f.type ((cs.drop f.offset).take (P.cellsOf f.type)) = some y) → ∃ gs, Is l gs ∧ Fits w (fun _ => False) gs (cs.drop o)
 | [], o, tot, l, h, fuel, cs, hc, _ => by
  unfold fieldsSh at h
  split at h
  ·cases h; rename_i e; exact ⟨[], .nil, by rw [List.drop_eq_nil_of_le (by omega)]; trivial⟩
  ·cases h
 | f :: fs, o, tot, l, h, fuel, cs, hc, hf => by
  unfold fieldsSh at h
  split at h
  ·rename_i ho
   split at h
   ·rename_i l1 hl1
    split at h
    ·rename_i hlen
     split at h
     ·rename_i r hr
      cases h
      obtain ⟨y, hy⟩ := hf f (List.mem_cons_self ..)
      obtain ⟨gs1, k1, k2⟩ := ih _ _ hl1 _ _ _ hy
      obtain ⟨gs2, k3, k4⟩ := qc9 ih fs _ _ _ hr fuel cs hc fun g hg => hf g (List.mem_cons_of_mem _ hg)
      refine ⟨gs1 ++ gs2, k1.append k3, ?_⟩
      rw [ho, ← hlen] at k2
      have : cs.drop o = (cs.drop o).take l1.length ++ cs.drop (o + l1.length) := by
       rw [← List.drop_drop, List.take_append_drop]
      rw [this]
      exact qkb k2 k4
     ·cases h
    ·cases h
   ·cases h
  ·cases h
theorem qcc : ∀ (n : Nat) (t : TypeId) (l : List Sh), shOf P n t = some l → Reads H enc P w base spare held t l
 | 0, _, _, h => by cases h
 | n + 1, t, l, h => by
  intro fuel cs x hx
  unfold shOf at h
  split at h
  ·rename_i hu; cases h
   obtain ⟨k, rfl, _⟩ := DataW.trod_int hu hx
   exact ⟨[G.int k], .int k .nil, ⟨rfl, rfl⟩, trivial⟩
  ·rename_i hu; cases h
   obtain ⟨s, rfl, _⟩ := DataW.trod_string hu hx
   exact ⟨[G.str s], .str s .nil, ⟨rfl, rfl⟩, trivial⟩
  ·rename_i hu; cases h
   obtain ⟨b, rfl, _⟩ := DataW.trod_bool hu hx
   exact ⟨[G.bool b], .bool b .nil, ⟨rfl, rfl⟩, trivial⟩
  ·rename_i e hu
   split at h
   ·rename_i le hle
    split at h
    ·rename_i hlen; cases h
     obtain ⟨xs, k1, k2, _⟩ := qd6 hu hlen (qcc n e le hle) hx
     exact ⟨_, .sl rfl k1 .nil, k2⟩
    ·cases h
   ·cases h
  ·rename_i fs hu
   obtain ⟨xs, m, _, _, hc, hlen, hf⟩ := DataW.trod_struct hu hx
   have := qc9 (qcc n) fs.toList 0 _ l h m cs hc fun f hf' => by
    obtain ⟨i, hi⟩ := List.getElem?_of_mem hf'
    have hi' : fs[i]? = some f := by rw [← Array.getElem?_toList]; exact hi
    have hlt : i < xs.length := by rw [hlen]; exact (Array.getElem?_eq_some_iff.1 hi').1
    exact ⟨_, (hf i f hi').trans (List.getElem?_eq_getElem hlt)⟩
   simpa using this
  ·cases h
theorem qli {r : Reach} {b0 : Nat} {t : TypeId} {fs : Array Field} {v : Value} {d : DataW H} {p : List MemPlace} {n : Nat} {l : List Sh} (hs : P.underlying t = some (.struct fs)) (hl : shOf P n t = some l) (hv : Value.okWide P w r b0 t v) (h : DataW.Trod enc P w base spare held t v d p) :
  ∃ gs, Is l gs ∧ (G.agg gs).p w (fun _ => False) v := by
 unfold Value.okWide at hv
 rw [hs] at hv
 obtain ⟨cs, rfl, _, _⟩ := hv
 obtain ⟨fuel, hf⟩ := h
 obtain ⟨gs, k1, k2⟩ := qcc n t l hl _ _ _ hf
 exact ⟨gs, k1, cs.toList, rfl, k2⟩
theorem qg5 {r : Reach} {b0 : Nat} {t e : TypeId} {v : Value} {d : DataW H} {p : List MemPlace} {n : Nat} {l : List Sh} (hs : P.underlying t = some (.slice e)) (hl : shOf P n e = some l) (hle : l.length = P.cellsOf e) (hv : Value.okWide P w r b0 t v) (h : DataW.Trod enc P w base spare held t v d p) :
  ∃ xs : List (List G), (∀ c ∈ xs, Is l c) ∧ (G.sl l.length xs).p w (fun _ => False) v ∧ (xs = [] ∨ ∃ elems rest, d = .slice elems rest ∧ elems.length = xs.length) := by
 obtain ⟨fuel, hf⟩ := h
 obtain ⟨xs, k1, k2, k3⟩ := qd6 hs hle (qcc n e l hl) hf
 have : v.cells.toList = [v] := by
  unfold Value.okWide at hv
  rw [hs] at hv
  dsimp only at hv
  unfold Cell.okWide Cell.ok at hv
  rw [hs] at hv
  cases v <;> first | rfl | exact hv.elim
 rw [this] at k2
 exact ⟨xs, k1, k2.1.1, k3⟩
end
end Go.Sim
