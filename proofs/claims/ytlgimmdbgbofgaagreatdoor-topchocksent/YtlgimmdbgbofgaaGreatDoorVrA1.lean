/-
  What is proved: lemmas and contracts of functions on the way to the law topChockSent (part 1).
-/
import Derived.WalkKit
import Derived.LoopNIn
import Derived.RangeFuncLeaves
import Derived.RangeFuncNested
import Derived.Sort.LoopGhostIn
import Derived.MapKept
import Derived.OrdersIn
import Derived.Deep.LoopGhost
set_option linter.unusedSectionVars false
set_option linter.unusedSimpArgs false
set_option linter.unusedVariables false
set_option linter.unnecessarySimpa false
set_option linter.deprecated false
namespace Go.Sim
abbrev GL := List (Nat × List Value)
structure G where
 p : World → (Nat → Prop) → Value → Prop
 mono : ∀ {w w' : World} {M M' : Nat → Prop} {u : Value}, p w M u → (∀ b, b < w.heap.size → ¬ M b → w'.heap[b]? = w.heap[b]?) →
  (∀ b, b < w.heap.size → M' b → M b) → p w' M' u
def G.lit (v : Value) : G := ⟨fun _ _ u => u = v, fun h _ _ => h⟩
def Fits (w : World) (M : Nat → Prop) : List G → List Value → Prop
 | [], [] => True
 | c :: cs, v :: vs => (c.p w M v ∧ v.oneCell' = true) ∧ Fits w M cs vs
 | _, _ => False
def FitsT (w : World) (M : Nat → Prop) : List G → List Value → Prop
 | [], [] => True
 | c :: cs, v :: vs => c.p w M v ∧ FitsT w M cs vs
 | _, _ => False
def Cells (w : World) (M : Nat → Prop) (b : Nat) : Nat → List G → Prop
 | _, [] => True
 | o, c :: cs => (∃ v, w.cell? ⟨b, o, none⟩ = some v ∧ c.p w M v ∧ v.oneCell' = true) ∧ Cells w M b (o + 1) cs
section mono
variable {w w' : World} {M M' : Nat → Prop} (hh : ∀ b, b < w.heap.size → ¬ M b → w'.heap[b]? = w.heap[b]?) (hM : ∀ b, b < w.heap.size → M' b → M b)
include hh hM
theorem Fits.mono : ∀ {cs : List G} {vs : List Value}, Fits w M cs vs → Fits w' M' cs vs
 | [], [], h => h
 | c :: _, _ :: _, h => ⟨⟨c.mono h.1.1 hh hM, h.1.2⟩, Fits.mono h.2⟩
 | [], _ :: _, h => h.elim
 | _ :: _, [], h => h.elim
theorem FitsT.mono : ∀ {cs : List G} {vs : List Value}, FitsT w M cs vs → FitsT w' M' cs vs
 | [], [], h => h
 | c :: _, _ :: _, h => ⟨c.mono h.1 hh hM, FitsT.mono h.2⟩
 | [], _ :: _, h => h.elim
 | _ :: _, [], h => h.elim
theorem Cells.mono {b : Nat} (hb : ¬ M b) : ∀ {cs : List G} {o : Nat}, Cells w M b o cs → Cells w' M' b o cs
 | [], _, h => h
 | c :: _, o, ⟨⟨v, h1, h2, h3⟩, h4⟩ => by
  have hlt : b < w.heap.size := block_lt_of_cell h1;refine ⟨⟨v, ?_, c.mono h2 hh hM, h3⟩, Cells.mono hb h4⟩;rw [World.cell?_of_block (w := w) (hh b hlt hb)]; exact h1
end mono
theorem Cells.not_mono {w : World} {M M' : Nat → Prop} {b : Nat} (hM : ∀ b, b < w.heap.size → M' b → M b) (hb : ¬ M b) : ∀ {cs : List G} {o : Nat}, cs ≠ [] → Cells w M b o cs → ¬ M' b
 | _ :: _, _, _, ⟨⟨_, h1, _, _⟩, _⟩ => fun h => hb (hM b (block_lt_of_cell h1) h)
def G.agg (cs : List G) : G := ⟨fun w M u => ∃ vs : List Value, u = .agg vs.toArray ∧ Fits w M cs vs, fun ⟨vs, h1, h2⟩ hh hM => ⟨vs, h1, h2.mono hh hM⟩⟩
def G.tup (cs : List G) : G := ⟨fun w M u => ∃ vs : List Value, u = .tuple vs.toArray ∧ FitsT w M cs vs, fun ⟨vs, h1, h2⟩ hh hM => ⟨vs, h1, h2.mono hh hM⟩⟩
def G.fn (f : Fn) (first cap : List G) : G :=
 ⟨fun w M u => ∃ fs cs : List Value, u = .func f fs.toArray cs.toArray ∧ FitsT w M first fs ∧ FitsT w M cap cs, fun ⟨fs, cs, h1, h2, h3⟩ hh hM => ⟨fs, cs, h1, h2.mono hh hM, h3.mono hh hM⟩⟩
def G.ref (cs : List G) : G :=
 ⟨fun w M u => ∃ b o, u = .pointer (some ⟨b, o, none⟩) ∧ (cs = [] ∨ ¬ M b) ∧ Cells w M b o cs, fun {w w' M M' u} h hh hM => by
  obtain ⟨b, o, h1, h2, h3⟩ := h
  rcases h2 with rfl | h2
  ·exact ⟨b, o, h1, .inl rfl, trivial⟩
  ·by_cases hc : cs = []
   ·subst hc; exact ⟨b, o, h1, .inl rfl, trivial⟩
   ·exact ⟨b, o, h1, .inr (Cells.not_mono hM h2 hc h3), h3.mono hh hM h2⟩⟩
def G.sl (k : Nat) (xs : List (List G)) : G :=
 ⟨fun w M u => ∃ a cap, u = .slice a xs.length cap ∧ xs.length ≤ cap ∧ cap ≤ maxLen ∧ (∀ c ∈ xs, c.length = k) ∧
   ((xs.flatten = [] ∧ (a = none → cap = 0)) ∨ ∃ b o, a = some ⟨b, o, none⟩ ∧ ¬ M b ∧ Cells w M b o xs.flatten), fun {w w' M M' u} h hh hM => by
  obtain ⟨a, cap, h1, h2, h3, h4, h5⟩ := h;refine ⟨a, cap, h1, h2, h3, h4, ?_⟩
  rcases h5 with h5 | ⟨b, o, h5, h6, h7⟩
  ·exact .inl h5
  ·by_cases hc : xs.flatten = []
   ·exact .inl ⟨hc, fun e => by rw [e] at h5; cases h5⟩
   ·exact .inr ⟨b, o, h5, Cells.not_mono hM h6 hc h7, h7.mono hh hM h6⟩⟩
abbrev G.int (n : Int) : G := .lit (.int .i64 n)
abbrev G.bool (b : Bool) : G := .lit (.bool b)
abbrev G.str (s : ByteArray) : G := .lit (.string s)
inductive TV where
 | g (x : G)
 | ptr (id off : Nat)
 | eptr (id k i off : Nat)
 | osl (id k lo hi : Nat)
 | omap (id : Nat)
 | agl (pre : List G) (id k hi : Nat) (post : List G)
 | tgl (id k hi : Nat) (gp r : G)
 | fnp (f : FuncId) (fst : Bool) (id : Nat)
 | tsl (id k hi : Nat) (r : G)
 | any
inductive Blk where
 | box (cs : List TV)
 | arr (e : TypeId) (k : Nat) (xs : List (List G))
 | mp (es : List (Value × G))
 | obj (o : Obj)
 | mit (es : List (Value × G)) (seen : List Nat)
 | tbox (T : TypeId) (cs : List TV)
 | buf (e : TypeId) (bs : List UInt8)
 | gone
@[match_pattern] abbrev Blk.it (s : ByteArray) (pos : Nat) : Blk := .obj (.stringIter s pos)
def Blk.live : Blk → Bool
 | .gone => false
 | _ => true
structure Own where
 b : Nat
 o : Nat
 cap : Nat
abbrev Rho := Nat → Option (Option Own)
def owned (M0 : Nat → Prop) (ρ : Rho) (b : Nat) : Prop := M0 b ∨ ∃ id o, ρ id = some (some o) ∧ o.b = b
def TRel (w : World) (M : Nat → Prop) (ρ : Rho) : TV → Value → Prop
 | .g x, v => x.p w M v
 | .ptr id off, v => ∃ ow, ρ id = some (some ow) ∧ v = .pointer (some ⟨ow.b, ow.o + off, none⟩)
 | .eptr id k i off, v => ∃ ow, ρ id = some (some ow) ∧ v = .pointer (some ⟨ow.b, ow.o + i * k + off, none⟩)
 | .osl id k lo hi, v => (ρ id = some none ∧ lo = 0 ∧ hi = 0 ∧ v = .slice none 0 0) ∨
   ∃ ow, ρ id = some (some ow) ∧ lo ≤ hi ∧ hi ≤ ow.cap ∧ ∃ p, v = .slice (some ⟨ow.b, p, none⟩) (hi - lo) (ow.cap - lo) ∧ (lo < ow.cap → p = ow.o + lo * k)
 | .omap id, v => ∃ ow, ρ id = some (some ow) ∧ v = .map (some ow.b)
 | .agl pre id _ hi post, v => ∃ (vs : List Value) (sv : Value) (us : List Value), v = .agg (vs ++ sv :: us).toArray ∧ Fits w M pre vs ∧ Fits w M post us ∧
   ((ρ id = some none ∧ hi = 0 ∧ sv = .slice none 0 0) ∨ ∃ (ow : Own) (p : Nat), ρ id = some (some ow) ∧ hi ≤ ow.cap ∧ sv = .slice (some ⟨ow.b, p, none⟩) hi ow.cap ∧ (0 < ow.cap → p = ow.o))
 | .tgl id _ hi gp r, v => ∃ (sv u z : Value), v = .tuple #[.agg #[sv, u], z] ∧ (gp.p w M u ∧ u.oneCell' = true) ∧ r.p w M z ∧
   ((ρ id = some none ∧ hi = 0 ∧ sv = .slice none 0 0) ∨ ∃ (ow : Own) (p : Nat), ρ id = some (some ow) ∧ hi ≤ ow.cap ∧ sv = .slice (some ⟨ow.b, p, none⟩) hi ow.cap ∧ (0 < ow.cap → p = ow.o))
 | .fnp f fst id, v => ∃ ow, ρ id = some (some ow) ∧ v = .func (.func f) (if fst = true then #[.pointer (some ⟨ow.b, ow.o, none⟩)] else #[]) (if fst = true then #[] else #[.pointer (some ⟨ow.b, ow.o, none⟩)])
 | .tsl id _ hi r, v => ∃ (sv z : Value), v = .tuple #[sv, z] ∧ r.p w M z ∧
   ((ρ id = some none ∧ hi = 0 ∧ sv = .slice none 0 0) ∨ ∃ (ow : Own) (p : Nat), ρ id = some (some ow) ∧ hi ≤ ow.cap ∧ sv = .slice (some ⟨ow.b, p, none⟩) hi ow.cap ∧ (0 < ow.cap → p = ow.o))
 | .any, _ => True
def TFits (w : World) (M : Nat → Prop) (ρ : Rho) : List TV → List Value → Prop
 | [], [] => True
 | c :: cs, v :: vs => (TRel w M ρ c v ∧ v.oneCell' = true) ∧ TFits w M ρ cs vs
 | _, _ => False
def MFits (w : World) (M : Nat → Prop) : List (Value × G) → List MapEntry → Prop
 | [], [] => True
 | (k, g) :: es, e :: l => (e.key = k ∧ g.p w M e.val) ∧ MFits w M es l
 | _, _ => False
theorem MFits.mono {w w' : World} {M M' : Nat → Prop} (hh : ∀ b, b < w.heap.size → ¬ M b → w'.heap[b]? = w.heap[b]?) (hM : ∀ b, b < w.heap.size → M' b → M b) : ∀ {es : List (Value × G)} {l : List MapEntry}, MFits w M es l → MFits w' M' es l
 | [], [], h => h
 | (_, g) :: _, _ :: _, h => ⟨⟨h.1.1, g.mono h.1.2 hh hM⟩, MFits.mono hh hM h.2⟩
 | [], _ :: _, h => h.elim
 | _ :: _, [], h => h.elim
def MitR (w : World) (M : Nat → Prop) (es : List (Value × G)) (seen : List Nat) (rb : Nat) : Prop :=
 ∃ mb en cl since sn c0, w.heap[rb]? = some (.mapIter (some mb) since sn c0) ∧ ¬ M mb ∧ w.heap[mb]? = some (.map en cl) ∧ MFits w M es en.toList ∧ MapKept.Stamped en cl ∧
  (∀ x ∈ en.toList, x.born < since) ∧ since ≤ c0 ∧ since ≤ cl ∧ (∀ i e, en.toList[i]? = some e → sn.contains e.born = decide (i ∈ seen)) ∧ ∀ j r, seen = j :: r → c0 = cl ∧ ∃ e, en.toList[j]? = some e ∧ sn.back? = some e.born
theorem MitR.mono {w w' : World} {M M' : Nat → Prop} {es : List (Value × G)} {seen : List Nat} {rb : Nat} (h : MitR w M es seen rb) (he : w'.heap[rb]? = w.heap[rb]?) (hh : ∀ b, b < w.heap.size → ¬ M b → w'.heap[b]? = w.heap[b]?) (hM : ∀ b, b < w.heap.size → M' b → M b) : MitR w' M' es seen rb := by
 obtain ⟨mb, en, cl, since, sn, c0, h1, h2, h3, h4, h5⟩ := h;have hlt : mb < w.heap.size := (Array.getElem?_eq_some_iff.1 h3).1;exact ⟨mb, en, cl, since, sn, c0, he.trans h1, fun h => h2 (hM mb hlt h), (hh mb hlt h2).trans h3, h4.mono hh hM, h5⟩
def G.mpf (es : List (Value × G)) : G :=
 ⟨fun w M u => ∃ b en cl, u = .map (some b) ∧ ¬ M b ∧ w.heap[b]? = some (.map en cl) ∧ MFits w M es en.toList ∧ MapKept.Stamped en cl, fun {w w' M M' u} h hh hM => by
  obtain ⟨b, en, cl, h1, h2, h3, h4, h5⟩ := h;have hlt : b < w.heap.size := (Array.getElem?_eq_some_iff.1 h3).1
  exact ⟨b, en, cl, h1, fun h => h2 (hM b hlt h), (hh b hlt h2).trans h3, h4.mono hh hM, h5⟩⟩
def BRel (w : World) (M : Nat → Prop) (ρ : Rho) (id : Nat) : Blk → Prop
 | .box cs => ∃ ow e, ∃ vs : List Value, ρ id = some (some ow) ∧ ow.o = 0 ∧ w.heap[ow.b]? = some (.cells vs.toArray e (0, 0)) ∧ TFits w M ρ cs vs
 | .arr e k xs => (ρ id = some none ∧ xs = []) ∨
   ∃ ow, ∃ vs : Array Value, ρ id = some (some ow) ∧ w.heap[ow.b]? = some (.cells vs e (0, 0)) ∧ xs.length ≤ ow.cap ∧ ow.cap ≤ maxLen ∧ (ow.cap = 0 ∨ ow.o + ow.cap * k ≤ vs.size) ∧ (∀ c ∈ xs, c.length = k) ∧
    Fits w M xs.flatten ((vs.toList.drop ow.o).take (xs.length * k))
 | .mp es => ∃ ow entries clock, ρ id = some (some ow) ∧ w.heap[ow.b]? = some (.map entries clock) ∧ MFits w M es entries.toList ∧ MapKept.Stamped entries clock
 | .obj o => ∃ ow, ρ id = some (some ow) ∧ ow.o = 0 ∧ w.heap[ow.b]? = some o
 | .mit es seen => ∃ ow, ρ id = some (some ow) ∧ ow.o = 0 ∧ MitR w M es seen ow.b
 | .tbox T cs => ∃ ow, ∃ vs : List Value, ρ id = some (some ow) ∧ ow.o = 0 ∧ w.heap[ow.b]? = some (.cells vs.toArray T (0, 0)) ∧ TFits w M ρ cs vs
 | .buf e bs => (ρ id = some none ∧ bs = []) ∨ ∃ ow, ∃ cur : Array Value, ρ id = some (some ow) ∧ ow.o = 0 ∧ 0 < ow.cap ∧ ow.cap ≤ maxLen ∧ w.heap[ow.b]? = some (.cells cur e (0, 0)) ∧ bs.length ≤ ow.cap ∧ cur.size = ow.cap ∧ cur.toList.take bs.length = bs.map fun c => Value.int .u8 c.toNat
 | .gone => True
structure Env where
 P : Program
 gl : List (Nat × List Value)
 orders : P.follows .mixedOrders = true
 bow : List (Nat × Option Own) := []
 rnd : Option Nat := none
 mks : Bool := false
 nb : Nat := 0
def Env.F (E : Env) : Fence := { fn := fun _ => True, depth := none, alive := false, round := E.rnd }
def lookO {α : Type} : List (Nat × α) → Nat → Option α
 | [], _ => none
 | (k, v) :: r, i => bif Nat.beq k i then some v else lookO r i
def Env.lent (E : Env) (b : Nat) : Prop := ∃ id ow, (id, some ow) ∈ E.bow ∧ ow.b = b
def Env.lentK (E : Env) (b : Nat) : Prop := ∃ id ow, lookO E.bow id = some (some ow) ∧ ow.b = b
theorem lent_nil {E : Env} (h : E.bow = []) {b : Nat} : ¬ E.lent b := by rintro ⟨_, _, h1, _⟩; rw [h] at h1; cases h1
theorem lentK_nil {E : Env} (h : E.bow = []) {b : Nat} : ¬ E.lentK b := by rintro ⟨_, _, h1, _⟩; rw [h] at h1; cases h1
def nodupN : List Nat → Bool
 | [] => true
 | a :: r => r.all (fun b => !Nat.beq a b) && nodupN r
def strictB (E : Env) : Bool := nodupN (E.bow.map (·.1))
theorem lookO_of_mem {α : Type} {id : Nat} {v : α} : ∀ {l : List (Nat × α)}, nodupN (l.map (·.1)) = true → (id, v) ∈ l → lookO l id = some v
 | (k, u) :: r, hn, h => by
  simp only [List.map_cons, nodupN, Bool.and_eq_true, List.all_eq_true] at hn;simp only [lookO]
  rcases List.mem_cons.1 h with h | h
  ·cases h; rw [Nat.beq_refl]; rfl
  ·have := hn.1 id (List.mem_map_of_mem (f := (·.1)) h);rw [show Nat.beq k id = false by simpa using this];exact lookO_of_mem hn.2 h
theorem lentK_of {E : Env} (hs : strictB E = true) {b : Nat} (h : E.lent b) : E.lentK b := by
 obtain ⟨id, ow, h1, h2⟩ := h;exact ⟨id, ow, lookO_of_mem hs h1, h2⟩
structure BelowX (L : Nat → Prop) (w0 w : World) : Prop where
 os : w.os = w0.os
 tape : w.tape = w0.tape
 output : w.output = w0.output
 size : w0.heap.size ≤ w.heap.size
 block : ∀ k, k < w0.heap.size → ¬ L k → w.heap[k]? = w0.heap[k]?
theorem BelowX.refl (L : Nat → Prop) (w : World) : BelowX L w w := ⟨rfl, rfl, rfl, Nat.le_refl _, fun _ _ _ => rfl⟩
theorem BelowX.trans {L : Nat → Prop} {a b c : World} (h : BelowX L a b) (k : BelowX L b c) : BelowX L a c :=
 ⟨k.os.trans h.os, k.tape.trans h.tape, k.output.trans h.output, Nat.le_trans h.size k.size, fun i hi hl => (k.block i (Nat.lt_of_lt_of_le hi h.size) hl).trans (h.block i hi hl)⟩
theorem BelowX.of_grow {L : Nat → Prop} {a b : World} (h : RowKit.Below a.heap.size a b) : BelowX L a b := ⟨h.os, h.tape, h.output, h.size, fun k hk _ => h.block k hk⟩
theorem BelowX.grow {L : Nat → Prop} {a b : World} (h : BelowX L a b) (hl : ∀ k, ¬ L k) : RowKit.Below a.heap.size a b := ⟨h.os, h.tape, h.output, h.size, fun k hk => h.block k hk (hl k)⟩
def GCells (w : World) (M : Nat → Prop) (g : Nat) (vs : List Value) : Prop := Cells w M g 0 (vs.map G.lit) ∧ ∃ e r, w.heap[g]? = some (.cells vs.toArray e r)
theorem GCells.mono {w w' : World} {M M' : Nat → Prop} {g : Nat} {vs : List Value} (h : GCells w M g vs) (hh : ∀ b, b < w.heap.size → ¬ M b → w'.heap[b]? = w.heap[b]?) (hM : ∀ b, b < w.heap.size → M' b → M b) (hb : ¬ M g) : GCells w' M' g vs := by
 obtain ⟨h1, e, r, h2⟩ := h;exact ⟨h1.mono hh hM hb, e, r, (hh g (Array.getElem?_eq_some_iff.1 h2).1 hb).trans h2⟩
def GlOk (E : Env) (w : World) (M : Nat → Prop) : Prop := ∀ g vs, (g, vs) ∈ E.gl → (¬ M g ∧ g < w.heap.size) ∧ GCells w M g vs
def lookT : List (Nat × TV) → Nat → TV
 | [], _ => .any
 | (k, v) :: r, i => bif Nat.beq k i then v else lookT r i
abbrev Mem := List (Nat × Blk)
structure MRel (E : Env) (w0 : World) (M0 : Nat → Prop) (ρ : Rho) (mem : Mem) (w : World) : Prop where
 below : BelowX E.lent w0 w
 m0 : ∀ b, M0 b → b < w0.heap.size
 glob : GlOk E w (owned M0 ρ)
 dom : ∀ id x, ρ id = some x → ∃ blk, lookO mem id = some blk
 fresh : ∀ id ow, ρ id = some (some ow) → (w0.heap.size ≤ ow.b ∨ E.lent ow.b) ∧ ow.b < w.heap.size
 inj : ∀ id id' ow ow', ρ id = some (some ow) → ρ id' = some (some ow') → ow.b = ow'.b → id = id'
 keep : ∀ id x, lookO E.bow id = some x → ρ id = some x
 lentM : (∀ b, E.lentK b → ¬ M0 b) ∧ E.nb ≤ w0.heap.size
 blk : ∀ id blk, lookO mem id = some blk → BRel w (owned M0 ρ) ρ id blk
structure ASt where
 n : Nat
 tmps : Nat → TV
 mem : Mem
def upd (d : Nat) (v : TV) (f : Nat → TV) : Nat → TV := fun i => bif Nat.beq d i then v else f i
def updO (d : Option Nat) (v : TV) (f : Nat → TV) : Nat → TV := match d with | some d => upd d v f | none => f
def ASt.get (s : ASt) (i : Nat) : TV := s.tmps i
def ASt.put (s : ASt) (d : Option Nat) (v : TV) : ASt := ⟨s.n, updO d v s.tmps, s.mem⟩
def globG (E : Env) (g : Nat) : G := match lookO E.gl g with | some vs => .ref (vs.map .lit) | none => .lit (.pointer (some ⟨g, 0, none⟩))
def ASt.eval (E : Env) (s : ASt) : Operand → TV
 | .tmp t => s.get t
 | .const v => .g (.lit v)
 | .global g => .g (globG E g)
 | .func f => .g (.lit (.func (.func f) #[] #[]))
def G.mark (D : Nat) : G := ⟨fun w M _ => ¬ M D ∧ w.heap[D]? = some (.deferred (some [])), fun {w w' M M' u} h hh hM => by
 have hlt : D < w.heap.size := (Array.getElem?_eq_some_iff.1 h.2).1
 exact ⟨fun k => h.1 (hM D hlt k), (hh D hlt h.1).trans h.2⟩⟩
def Marks (w0 : World) (M : Nat → Prop) (ds : List Deferred) (w : World) : Prop := ds.Nodup ∧ ∀ d ∈ ds, ∃ D, d = { target := .collected D, args := #[] } ∧ w0.heap.size ≤ D ∧ (G.mark D).p w M undef
theorem Marks.nil {w0 w : World} {M : Nat → Prop} : Marks w0 M [] w := ⟨.nil, fun _ h => by cases h⟩
theorem Marks.mono {w0 w w' : World} {M M' : Nat → Prop} {ds : List Deferred} (h : Marks w0 M ds w) (hh : ∀ b, b < w.heap.size → ¬ M b → w'.heap[b]? = w.heap[b]?) (hM : ∀ b, b < w.heap.size → M' b → M b) : Marks w0 M' ds w' := ⟨h.1, fun d hd => by
 obtain ⟨D, h1, h2, h3⟩ := h.2 d hd
 exact ⟨D, h1, h2, (G.mark D).mono h3 hh hM⟩⟩
theorem Marks.sub {w0 w : World} {M M' : Nat → Prop} {ds : List Deferred} (h : Marks w0 M ds w) (hM : ∀ b, M' b → M b) : Marks w0 M' ds w := h.mono (fun _ _ _ => rfl) fun b _ => hM b
structure ARel (E : Env) (w0 : World) (M0 : Nat → Prop) (s : ASt) (a : Act) (w : World) : Prop where
 defers : E.mks = false → a.defers = []
 size : a.tmps.size = s.n
 ex : ∃ ρ, MRel E w0 M0 ρ s.mem w ∧ Marks w0 (owned M0 ρ) a.defers w ∧ ∀ i, TRel w (owned M0 ρ) ρ (s.get i) (a.tmps.getD i undef)
def AWp (E : Env) (w0 : World) (M0 : Nat → Prop) (c : Code) (Q : Exit → ASt → Prop) (s : ASt) : Prop :=
 ∀ a w, ARel E w0 M0 s a w → c.wpIn E.F 0 E.P (fun e a' w' => ∃ s', ARel E w0 M0 s' a' w' ∧ Q e s') a w
def athen (K : ASt → Prop) (Q : Exit → ASt → Prop) : Exit → ASt → Prop
 | .normal, s => K s
 | e, s => Q e s
def ablock (id : Nat) (Q : Exit → ASt → Prop) : Exit → ASt → Prop
 | .exit id', s => if id' = id then Q .normal s else Q (.exit id') s
 | e, s => Q e s
section
variable {E : Env} {w0 : World} {M0 : Nat → Prop} {Q : Exit → ASt → Prop} {s : ASt}
theorem AWp.mono {c : Code} {Q' : Exit → ASt → Prop} (h : AWp E w0 M0 c Q s) (hq : ∀ e s, Q e s → Q' e s) : AWp E w0 M0 c Q' s :=
 fun a w ha => wpIn_mono (h a w ha) fun _ _ _ ⟨s', h1, h2⟩ => ⟨s', h1, hq _ _ h2⟩
theorem aw_seq {x y : Code} (h : AWp E w0 M0 x (athen (AWp E w0 M0 y Q) Q) s) : AWp E w0 M0 (.seq x y) Q s :=
 fun a w ha => wpIn_seq (wpIn_mono (h a w ha) fun e a' w' ⟨s', h1, h2⟩ => by
  cases e <;> first | exact h2 a' w' h1 | exact ⟨s', h1, h2⟩)
theorem aw_skip (h : Q .normal s) : AWp E w0 M0 .skip Q s := fun _ _ ha => wpIn_skip ⟨s, ha, h⟩
theorem aw_ret (h : Q .ret s) : AWp E w0 M0 .ret Q s := fun _ _ ha => wpIn_ret ⟨s, ha, h⟩
theorem aw_exit {id : Nat} (h : Q (.exit id) s) : AWp E w0 M0 (.exit id) Q s := fun _ _ ha => wpIn_exit ⟨s, ha, h⟩
theorem aw_label {l : Nat} (h : Q .normal s) : AWp E w0 M0 (.label l) Q s := fun _ _ ha => wpIn_label ⟨s, ha, h⟩
theorem aw_block {id : Nat} {c : Code} (h : AWp E w0 M0 c (ablock id Q) s) : AWp E w0 M0 (.block id c) Q s :=
 fun a w ha => wpIn_block (wpIn_mono (h a w ha) fun e a' w' ⟨s', h1, h2⟩ => by
  cases e with
  | exit id' =>
   unfold ablock at h2;unfold Exit.inBlock;dsimp only at h2 ⊢
   split
   ·rename_i he; rw [if_pos he] at h2; exact ⟨s', h1, h2⟩
   ·rename_i he; rw [if_neg he] at h2; exact ⟨s', h1, h2⟩
  | _ => exact ⟨s', h1, h2⟩)
theorem lookO_mem {α : Type} {g : Nat} {v : α} : ∀ (l : List (Nat × α)), lookO l g = some v → (g, v) ∈ l
 | [], h => by cases h
 | (k, u) :: r, h => by
  simp only [lookO] at h
  rcases Bool.eq_false_or_eq_true (Nat.beq k g) with hk | hk
  ·rw [hk] at h;have := Nat.eq_of_beq_eq_true hk
   simp at h
   subst this; subst h;exact List.mem_cons_self
  ·rw [hk] at h; exact List.mem_cons_of_mem _ (lookO_mem r h)
theorem glob_rel {ρ : Rho} {mem : Mem} {w : World} (hm : MRel E w0 M0 ρ mem w) (g : Nat) : (globG E g).p w (owned M0 ρ) (.pointer (some ⟨g, 0, none⟩)) := by
 unfold globG
 cases hl : lookO E.gl g with
 | none => exact rfl
 | some vs =>
  obtain ⟨h1, h2⟩ := hm.glob g vs (lookO_mem _ hl);exact ⟨g, 0, rfl, .inr h1.1, h2.1⟩
theorem eval_rel {ρ : Rho} {mem : Mem} {w : World} {a : Act} (hm : MRel E w0 M0 ρ mem w) (ht : ∀ i, TRel w (owned M0 ρ) ρ (s.get i) (a.tmps.getD i undef)) (x : Operand) :
  TRel w (owned M0 ρ) ρ (s.eval E x) (a.eval x) := by
 cases x with
 | tmp t => exact ht t
 | const v => exact rfl
 | func f => exact rfl
 | global g => exact glob_rel hm g
theorem ARel.rel {a : Act} {w : World} (h : ARel E w0 M0 s a w) : ∃ ρ, MRel E w0 M0 ρ s.mem w ∧ ∀ x, TRel w (owned M0 ρ) ρ (s.eval E x) (a.eval x) := by
 obtain ⟨ρ, hm, _, ht⟩ := h.ex;exact ⟨ρ, hm, eval_rel hm ht⟩
theorem aw_cond {c : Operand} {x y : Code} (b : Bool) (hb : s.eval E c = .g (.lit (.bool b))) (ht : b = true → AWp E w0 M0 x Q s) (hf : b = false → AWp E w0 M0 y Q s) : AWp E w0 M0 (.cond c x y) Q s := by
 intro a w ha;obtain ⟨ρ, _, hx⟩ := ha.rel;have hc := hx c;rw [hb] at hc;have hc' : a.eval c = .bool b := hc
 cases b with
 | true => exact wpIn_cond_true hc' (ht rfl a w ha)
 | false => exact wpIn_cond_false hc' (hf rfl a w ha)
def ARounds (E : Env) (w0 : World) (M0 : Nat → Prop) (c : Code) (Q : Exit → ASt → Prop) : Nat → ASt → Prop
 | 0, _ => False
 | n + 1, s => AWp E w0 M0 c (athen (ARounds E w0 M0 c Q n) Q) s
theorem aw_loop {c : Code} (n : Nat) (h : ARounds E w0 M0 c Q n s) : AWp E w0 M0 (.loop c) Q s := by
 intro a w ha;refine wpIn_loop_rounds n ?_
 revert s a w
 induction n with
 | zero => intro s h; exact h.elim
 | succ n ih =>
  intro s h a w ha;rw [roundsIn_succ];refine wpIn_mono (h a w ha) ?_;rintro e a' w' ⟨s', h1, h2⟩
  cases e <;> first | exact ih h2 a' w' h1 | exact ⟨s', h1, h2⟩
end
abbrev Grow (w w' : World) : Prop := RowKit.Below w.heap.size w w'
theorem Grow.hh {w w' : World} (h : Grow w w') {M : Nat → Prop} : ∀ b, b < w.heap.size → ¬ M b → w'.heap[b]? = w.heap[b]? := fun b hb _ => h.block b hb
theorem Grow.trans {a b c : World} (h : Grow a b) (k : Grow b c) : Grow a c := RowKit.Below.trans h (RowKit.Below.mono k h.size)
theorem Grow.refl (w : World) : Grow w w := RowKit.Below.refl _ _
theorem Grow.alloc (w : World) (o : Obj) : Grow w (w.alloc o) := (RowKit.Below.refl _ w).alloc (Nat.le_refl _) o
def noref : Option Nat → TV → Bool
 | none, _ => true
 | some i, .ptr id _ | some i, .eptr id _ _ _ | some i, .osl id _ _ _ | some i, .omap id | some i, .agl _ id _ _ _ | some i, .tgl id _ _ _ _ | some i, .fnp _ _ id | some i, .tsl id _ _ _ => !Nat.beq id i
 | some _, _ => true
theorem noref_ne {i id : Nat} (h : (!Nat.beq id i) = true) : id ≠ i := by
 intro e; subst e; simp at h
section
variable {w w' : World} {M M' : Nat → Prop} {ρ ρ' : Rho}
theorem TRel.mono {tv : TV} {v : Value} (kill : Option Nat) (hn : noref kill tv = true) (h : TRel w M ρ tv v) (hh : ∀ b, b < w.heap.size → ¬ M b → w'.heap[b]? = w.heap[b]?) (hM : ∀ b, b < w.heap.size → M' b → M b)
  (hρ : ∀ id, some id ≠ kill → ρ id ≠ none → ρ' id = ρ id) : TRel w' M' ρ' tv v := by
 have key : ∀ id, (∀ i, kill = some i → id ≠ i) → ρ id ≠ none → ρ' id = ρ id := fun id h1 h2 => hρ id (fun e => h1 id e.symm rfl) h2
 cases tv with
 | g x => exact x.mono h hh hM
 | any => trivial
 | ptr id off =>
  obtain ⟨ow, h1, h2⟩ := h;refine ⟨ow, ?_, h2⟩;rw [key id (fun i e => by subst e; exact noref_ne hn) (by rw [h1]; simp)]; exact h1
 | eptr id k i off =>
  obtain ⟨ow, h1, h2⟩ := h;refine ⟨ow, ?_, h2⟩;rw [key id (fun i e => by subst e; exact noref_ne hn) (by rw [h1]; simp)]; exact h1
 | omap id =>
  obtain ⟨ow, h1, h2⟩ := h;refine ⟨ow, ?_, h2⟩;rw [key id (fun i e => by subst e; exact noref_ne hn) (by rw [h1]; simp)]; exact h1
 | agl pre id k hi post =>
  obtain ⟨vs, sv, us, h0, h1, h2, h3⟩ := h;refine ⟨vs, sv, us, h0, h1.mono hh hM, h2.mono hh hM, ?_⟩
  rcases h3 with ⟨q1, q2⟩ | ⟨ow, p, q1, q2⟩
  ·exact .inl ⟨by rw [key id (fun i e => by subst e; exact noref_ne hn) (by rw [q1]; simp)]; exact q1, q2⟩
  ·exact .inr ⟨ow, p, by rw [key id (fun i e => by subst e; exact noref_ne hn) (by rw [q1]; simp)]; exact q1, q2⟩
 | tgl id k hi gp r =>
  obtain ⟨sv, u, z, h0, h1, h2, h3⟩ := h;refine ⟨sv, u, z, h0, ⟨gp.mono h1.1 hh hM, h1.2⟩, r.mono h2 hh hM, ?_⟩
  rcases h3 with ⟨q1, q2⟩ | ⟨ow, p, q1, q2⟩
  ·exact .inl ⟨by rw [key id (fun i e => by subst e; exact noref_ne hn) (by rw [q1]; simp)]; exact q1, q2⟩
  ·exact .inr ⟨ow, p, by rw [key id (fun i e => by subst e; exact noref_ne hn) (by rw [q1]; simp)]; exact q1, q2⟩
 | fnp f fst id =>
  obtain ⟨ow, h1, h2⟩ := h;exact ⟨ow, by rw [key id (fun i e => by subst e; exact noref_ne hn) (by rw [h1]; simp)]; exact h1, h2⟩
 | tsl id k hi r =>
  obtain ⟨sv, z, h0, h2, h3⟩ := h;refine ⟨sv, z, h0, r.mono h2 hh hM, ?_⟩
  rcases h3 with ⟨q1, q2⟩ | ⟨ow, p, q1, q2⟩
  ·exact .inl ⟨by rw [key id (fun i e => by subst e; exact noref_ne hn) (by rw [q1]; simp)]; exact q1, q2⟩
  ·exact .inr ⟨ow, p, by rw [key id (fun i e => by subst e; exact noref_ne hn) (by rw [q1]; simp)]; exact q1, q2⟩
 | osl id k lo hi =>
  have hne : ∀ i, kill = some i → id ≠ i := fun i e => by subst e; exact noref_ne hn
  rcases h with ⟨h1, h2⟩ | ⟨ow, h1, h2⟩
  ·exact .inl ⟨by rw [key id hne (by rw [h1]; simp)]; exact h1, h2⟩
  ·exact .inr ⟨ow, by rw [key id hne (by rw [h1]; simp)]; exact h1, h2⟩
theorem TRel.grow {tv : TV} {v : Value} (h : TRel w M ρ tv v) (hg : Grow w w') : TRel w' M ρ tv v :=
 h.mono none (by cases tv <;> rfl) hg.hh (fun _ _ h => h) (fun _ _ _ => rfl)
theorem TFits.mono (hh : ∀ b, b < w.heap.size → ¬ M b → w'.heap[b]? = w.heap[b]?) (hM : ∀ b, b < w.heap.size → M' b → M b) (kill : Option Nat)
  (hρ : ∀ id, some id ≠ kill → ρ id ≠ none → ρ' id = ρ id) : ∀ {cs : List TV} {vs : List Value}, (∀ c ∈ cs, noref kill c = true) → TFits w M ρ cs vs → TFits w' M' ρ' cs vs
 | [], [], _, h => h
 | c :: _, _ :: _, hn, h => ⟨⟨h.1.1.mono kill (hn c List.mem_cons_self) hh hM hρ, h.1.2⟩, TFits.mono hh hM kill hρ (fun c hc => hn c (List.mem_cons_of_mem _ hc)) h.2⟩
 | [], _ :: _, _, h => h.elim
 | _ :: _, [], _, h => h.elim
end
def Blk.noref (kill : Option Nat) : Blk → Bool
 | .box cs => cs.all (Sim.noref kill)
 | .tbox _ cs => cs.all (Sim.noref kill)
 | _ => true
section
variable {w w' : World} {M M' : Nat → Prop} {ρ ρ' : Rho}
theorem BRel.mono {id : Nat} {blk : Blk} (kill : Option Nat) (hk : some id ≠ kill) (hn : blk.noref kill = true) (h : BRel w M ρ id blk)
  (hown : ∀ ow, ρ id = some (some ow) → w'.heap[ow.b]? = w.heap[ow.b]?)
  (hh : ∀ b, b < w.heap.size → ¬ M b → w'.heap[b]? = w.heap[b]?) (hM : ∀ b, b < w.heap.size → M' b → M b)
  (hρ : ∀ id, some id ≠ kill → ρ id ≠ none → ρ' id = ρ id) : BRel w' M' ρ' id blk := by
 cases blk with
 | box cs =>
  obtain ⟨ow, e, vs, h1, h2, h3, h4⟩ := h;refine ⟨ow, e, vs, ?_, h2, ?_, ?_⟩
  ·rw [hρ id hk (by rw [h1]; simp)]; exact h1
  ·rw [hown ow h1]; exact h3
  ·exact TFits.mono hh hM kill hρ (by simpa [Blk.noref] using hn) h4
 | arr e k xs =>
  rcases h with ⟨h1, h2⟩ | ⟨ow, vs, h1, h2, h3, h4, h5, h6, h7⟩
  ·exact .inl ⟨by rw [hρ id hk (by rw [h1]; simp)]; exact h1, h2⟩
  ·exact .inr ⟨ow, vs, by rw [hρ id hk (by rw [h1]; simp)]; exact h1, by rw [hown ow h1]; exact h2, h3, h4, h5, h6, h7.mono hh hM⟩
 | mp es =>
  obtain ⟨ow, en, cl, h1, h2, h3, h4⟩ := h;exact ⟨ow, en, cl, by rw [hρ id hk (by rw [h1]; simp)]; exact h1, by rw [hown ow h1]; exact h2, h3.mono hh hM, h4⟩
 | obj o =>
  obtain ⟨ow, h1, h2, h3⟩ := h;exact ⟨ow, by rw [hρ id hk (by rw [h1]; simp)]; exact h1, h2, by rw [hown ow h1]; exact h3⟩
 | mit es seen =>
  obtain ⟨ow, h1, h2, h3⟩ := h;exact ⟨ow, by rw [hρ id hk (by rw [h1]; simp)]; exact h1, h2, h3.mono (hown ow h1) hh hM⟩
 | tbox T cs =>
  obtain ⟨ow, vs, h1, h2, h3, h4⟩ := h;refine ⟨ow, vs, ?_, h2, ?_, ?_⟩
  ·rw [hρ id hk (by rw [h1]; simp)]; exact h1
  ·rw [hown ow h1]; exact h3
  ·exact TFits.mono hh hM kill hρ (by simpa [Blk.noref] using hn) h4
 | buf e bs =>
  rcases h with ⟨h1, h2⟩ | ⟨ow, cur, h1, h2, h3, h4, h5, h6⟩
  ·exact .inl ⟨by rw [hρ id hk (by rw [h1]; simp)]; exact h1, h2⟩
  ·exact .inr ⟨ow, cur, by rw [hρ id hk (by rw [h1]; simp)]; exact h1, h2, h3, h4, by rw [hown ow h1]; exact h5, h6⟩
 | gone => trivial
end
section
variable {E : Env} {w0 : World} {M0 : Nat → Prop}
theorem GlOk.grow {w w' : World} {M : Nat → Prop} (h : GlOk E w M) (hs : w.heap.size ≤ w'.heap.size) (hh : ∀ b, b < w.heap.size → ¬ M b → w'.heap[b]? = w.heap[b]?) : GlOk E w' M :=
 fun g vs hg => ⟨⟨(h g vs hg).1.1, Nat.lt_of_lt_of_le (h g vs hg).1.2 hs⟩, (h g vs hg).2.mono hh (fun _ _ h => h) (h g vs hg).1.1⟩
theorem MRel.grow {ρ : Rho} {mem : Mem} {w w' : World} (h : MRel E w0 M0 ρ mem w) (hg : Grow w w') : MRel E w0 M0 ρ mem w' where
 below := h.below.trans (BelowX.of_grow hg)
 m0 := h.m0
 glob := h.glob.grow hg.size hg.hh
 dom := h.dom
 fresh := fun id ow ho => ⟨(h.fresh id ow ho).1, Nat.lt_of_lt_of_le (h.fresh id ow ho).2 hg.size⟩
 inj := h.inj
 keep := h.keep
 lentM := h.lentM
 blk := fun id blk hb => (h.blk id blk hb).mono none (by simp) (by cases blk <;> simp [Blk.noref, Sim.noref]) (fun ow ho => hg.block _ (h.fresh id ow ho).2) hg.hh (fun _ _ h => h) (fun _ _ _ => rfl)
def Upon0 (E : Env) (w : World) (M : Nat → Prop) (ρ : Rho) (r : TV) : Result Next → Prop
 | .ok (.value v) w' => Grow w w' ∧ TRel w' M ρ r v
 | .ok .skip w' => Grow w w' ∧ TRel w' M ρ r undef
 | .ok (.enter f args) w' => Calls E.P f args w' fun e w'' => ∃ v, e = .returned v ∧ Grow w w'' ∧ TRel w'' M ρ r v
 | _ => False
def Eff (E : Env) (o : Oper) (mem : Mem) (ev : Operand → TV) (r : TV) : Prop :=
 ∀ w0 M0 ρ w (e : Operand → Value), MRel E w0 M0 ρ mem w → (∀ x ∈ o.op.operands, TRel w (owned M0 ρ) ρ (ev x) (e x)) → Upon0 E w (owned M0 ρ) ρ r ((execOp e o).run E.P w)
def Kept (M0 : Nat → Prop) (kill : Option Nat) (ρ : Rho) (w : World) (ρ' : Rho) (w' : World) : Prop :=
 ∀ tv v, noref kill tv = true → TRel w (owned M0 ρ) ρ tv v → TRel w' (owned M0 ρ') ρ' tv v
def UponW (E : Env) (w0 : World) (M0 : Nat → Prop) (ρ : Rho) (w : World) (mem' : Mem) (r : TV) (kill : Option Nat) : Result Next → Prop
 | .ok (.value v) w' => ∃ ρ', MRel E w0 M0 ρ' mem' w' ∧ Kept M0 kill ρ w ρ' w' ∧ TRel w' (owned M0 ρ') ρ' r v
 | .ok .skip w' => ∃ ρ', MRel E w0 M0 ρ' mem' w' ∧ Kept M0 kill ρ w ρ' w' ∧ TRel w' (owned M0 ρ') ρ' r undef
 | .ok (.enter f args) w' => Calls E.P f args w' fun e w'' => ∃ v, e = .returned v ∧ ∃ ρ', MRel E w0 M0 ρ' mem' w'' ∧ Kept M0 kill ρ w ρ' w'' ∧ TRel w'' (owned M0 ρ') ρ' r v
 | _ => False
def EffW (E : Env) (o : Oper) (mem : Mem) (ev : Operand → TV) (r : TV) (mem' : Mem) (kill : Option Nat) : Prop :=
 ∀ w0 M0 ρ w (e : Operand → Value), MRel E w0 M0 ρ mem w → (∀ x ∈ o.op.operands, TRel w (owned M0 ρ) ρ (ev x) (e x)) → UponW E w0 M0 ρ w mem' r kill ((execOp e o).run E.P w)
theorem Kept.grow {ρ : Rho} {w w' : World} (hg : Grow w w') : Kept M0 none ρ w ρ w' := fun _ _ _ h => h.grow hg
theorem Eff.toW {o : Oper} {mem : Mem} {ev : Operand → TV} {r : TV} (h : Eff E o mem ev r) : EffW E o mem ev r mem none := by
 intro w0 M0 ρ w e hm hx;have := h w0 M0 ρ w e hm hx;generalize (execOp e o).run E.P w = res at *
 cases res with
 | ok n w' =>
  cases n <;> simp only [Upon0, UponW] at this ⊢ <;> first | exact ⟨ρ, hm.grow this.1, Kept.grow this.1, this.2⟩ | skip
  refine this.mono ?_;rintro e' w'' ⟨v, rfl, h1, h2⟩;exact ⟨v, rfl, ρ, hm.grow h1, Kept.grow h1, h2⟩
 | halt => exact this.elim
inductive Cls where
 | p | r | w | k
 | pn (i : Nat) | kn (i : Nat)
 | rq (i : Nat) | al (i : Nat)
 | wq (i : Nat)
 | rn (i a : Nat)
 deriving DecidableEq
def Cls.ok : Cls → Cls → Bool
 | .p, .p | .p, .r | .p, .w | .r, .p | .w, .p | .r, .r => true
 | .pn _, .p | .pn _, .r | .pn _, .w | .p, .pn _ | .r, .pn _ | .w, .pn _ => true
 | .pn _, .pn _ => true
 | .pn i, .kn j | .kn i, .pn j => Nat.beq i j
 | .rq _, .p | .p, .rq _ | .rq _, .pn _ | .pn _, .rq _ | .rq _, .rq _ | .rq _, .r | .r, .rq _ => true
 | .al _, .p | .p, .al _ | .al _, .pn _ | .pn _, .al _ => true
 | .rq i, .al j | .al i, .rq j => !Nat.beq i j
 | .wq _, .p | .p, .wq _ | .wq _, .pn _ | .pn _, .wq _ => true
 | .wq i, .wq j | .wq i, .rq j | .rq i, .wq j => !Nat.beq i j
 | .rn _ _, .p | .p, .rn _ _ | .rn _ _, .pn _ | .pn _, .rn _ _ | .rn _ _, .rn _ _ => true
 | .rn i a, .kn j | .kn j, .rn i a => Nat.beq a j && !Nat.beq i j
 | _, _ => false
def noname (i : Nat) : TV → Bool
 | .g _ => true
 | .ptr id _ | .eptr id _ _ _ | .osl id _ _ _ | .omap id | .agl _ id _ _ _ | .tgl id _ _ _ _ | .fnp _ _ id | .tsl id _ _ _ => !Nat.beq id i
 | .any => false
def undefT : TV := .g (.lit undef)
def boolOf : Value → Option Bool
 | .bool b => some b
 | _ => none
def GB (tv : TV) (want gb : Bool) : Prop := ∀ w M ρ v, TRel w M ρ tv v → (boolOf v == some want) = gb
def Wanted (ops : Array Oper) (o : Oper) (s : ASt) (gb : Bool) : Prop :=
 match o.guard with
 | none => gb = true
 | some (j, want) => ∃ d, (ops[j]?).bind (·.dst) = some d ∧ GB (s.get d) want gb
def killT (kill : Option Nat) (f : Nat → TV) : Nat → TV := match kill with
 | none => f
 | some j => fun i => bif noref (some j) (f i) then f i else .any
def ASt.after (s : ASt) (kill : Option Nat) (mem' : Mem) : ASt := ⟨s.n, killT kill s.tmps, mem'⟩
def Blk.tb : Blk → Bool
 | .tbox _ _ => true
 | _ => false
def SameTb (mem mem' : Mem) (k : Nat) : Prop := lookO mem' k = lookO mem k ∨ (∃ b, lookO mem k = some b ∧ b.tb = true) ∧ ∃ b, lookO mem' k = some b ∧ b.tb = true
theorem SameTb.fwd {mem mem' : Mem} {k : Nat} {b : Blk} (h : SameTb mem mem' k) (hb : lookO mem k = some b ∧ b.tb = false) : lookO mem' k = some b ∧ b.tb = false := by
 rcases h with h | ⟨⟨b', h1, h2⟩, _⟩
 ·exact ⟨h.trans hb.1, hb.2⟩
 ·rw [hb.1] at h1; cases h1; rw [hb.2] at h2; cases h2
theorem SameTb.bwd {mem mem' : Mem} {k : Nat} {b : Blk} (h : SameTb mem mem' k) (hb : lookO mem' k = some b ∧ b.tb = false) : lookO mem k = some b ∧ b.tb = false := by
 rcases h with h | ⟨_, b', h1, h2⟩
 ·exact ⟨h.symm.trans hb.1, hb.2⟩
 ·rw [hb.1] at h1; cases h1; rw [hb.2] at h2; cases h2
def EffC (E : Env) (c : Cls) (o : Oper) (mem : Mem) (ev : Operand → TV) (r : TV) (mem' : Mem) (kill : Option Nat) : Prop :=
 match c with
 | .p => mem' = mem ∧ kill = none ∧ ∀ mem, Eff E o mem ev r
 | .r => mem' = mem ∧ kill = none ∧ Eff E o mem ev r
 | .w => kill = none ∧ EffW E o mem ev r mem' none
 | .k => EffW E o mem ev r mem' kill
 | .pn i => mem' = mem ∧ kill = none ∧ (∀ mem, Eff E o mem ev r) ∧ (∀ x ∈ o.op.operands, noname i (ev x) = true) ∧ noname i r = true
 | .kn i => kill = some i ∧ EffW E o mem ev r mem' (some i) ∧ ∀ k, k ≠ i → SameTb mem mem' k
 | .rq i => mem' = mem ∧ kill = none ∧ ∃ b, lookO mem i = some b ∧ ∀ m, lookO m i = some b → Eff E o m ev r
 | .al i => kill = none ∧ ∃ blk, mem' = (i, blk) :: mem ∧ lookO mem i = none ∧ ∀ m, lookO m i = none → EffW E o m ev r ((i, blk) :: m) none
 | .rn i a => mem' = mem ∧ kill = none ∧ (∃ b, (lookO mem i = some b ∧ b.tb = false) ∧ ∀ m, lookO m i = some b → Eff E o m ev r) ∧ (∀ x ∈ o.op.operands, noname a (ev x) = true) ∧ noname a r = true
 | .wq i => kill = none ∧ ∃ blk, (∀ k, lookO mem' k = lookO ((i, blk) :: mem) k) ∧ ∀ m, lookO m i = lookO mem i → EffW E o m ev r ((i, blk) :: m) none
def AStep (E : Env) (ops : Array Oper) (o : Oper) (c : Cls) (s s' : ASt) : Prop :=
 (∀ d, o.dst = some d → d < s.n) ∧
 ∃ gb r mem' kill, Wanted ops o s gb ∧ (gb = true → EffC E c o s.mem (s.eval E) r mem' kill) ∧ (gb = false → mem' = s.mem ∧ kill = none ∧ r = undefT) ∧
  s' = (s.after kill mem').put o.dst r
def AOps (E : Env) (ops : Array Oper) : List Oper → List Cls → ASt → (ASt → Prop) → Prop
 | [], [], s, K => K s
 | o :: os, c :: cs, s, K => ∃ s', AStep E ops o c s s' ∧ AOps E ops os cs s' K
 | _, _, _, _ => False
theorem lookT_killT (kill : Option Nat) (f : Nat → TV) (i : Nat) : killT kill f i = bif noref kill (f i) then f i else .any := by
 cases kill <;> rfl
theorem upd_eq (d : Nat) (v : TV) (f : Nat → TV) (i : Nat) : upd d v f i = if d = i then v else f i := by
 unfold upd
 by_cases h : d = i
 ·subst h; simp
 ·rw [if_neg h]
  have : Nat.beq d i = false := by
   rw [← Bool.not_eq_true]; intro e; exact h (Nat.eq_of_beq_eq_true e)
  rw [this]; rfl
theorem updO_eq (d : Option Nat) (v : TV) (f : Nat → TV) (i : Nat) : updO d v f i = if d = some i then v else f i := by
 cases d with
 | none => simp [updO]
 | some d => simp only [updO, upd_eq, Option.some.injEq]
theorem get_put (s : ASt) (d : Option Nat) (r : TV) (i : Nat) : (s.put d r).get i = if d = some i then r else s.get i := updO_eq _ _ _ _
theorem updO_comm {d d' : Option Nat} (h : ∀ i, d = some i → d' ≠ some i) (v v' : TV) (f : Nat → TV) : updO d v (updO d' v' f) = updO d' v' (updO d v f) := by
 funext i
 simp only [updO_eq]
 by_cases h1 : d = some i
 ·rw [if_pos h1, if_neg (h i h1), if_pos h1]
 ·rw [if_neg h1, if_neg h1]
theorem getD_put (a : Act) (dst : Option Tmp) (v : Value) (hd : ∀ d, dst = some d → d < a.tmps.size) (i : Nat) : (a.put dst v).tmps.getD i undef = if dst = some i then v else a.tmps.getD i undef := by
 cases dst with
 | none => simp [Act.put]
 | some d =>
  have hlt := hd d rfl;simp only [Act.put, Option.some.injEq]
  by_cases h : d = i
  ·subst h; simp [hlt]
  ·rw [if_neg h]; simp [Array.getElem?_setIfInBounds_ne h]
theorem size_put (a : Act) (dst : Option Tmp) (v : Value) : (a.put dst v).tmps.size = a.tmps.size := by cases dst <;> simp [Act.put]
theorem defers_put (a : Act) (dst : Option Tmp) (v : Value) : (a.put dst v).defers = a.defers := by cases dst <;> rfl
theorem ARel.put {s : ASt} {a : Act} {w' : World} {ρ ρ' : Rho} {w : World} {kill : Option Nat} {mem' : Mem} {dst : Option Tmp} {r : TV} {v : Value}
  (hd : E.mks = false → a.defers = []) (hs : a.tmps.size = s.n) (hmk : Marks w0 (owned M0 ρ) a.defers w) (ht : ∀ i, TRel w (owned M0 ρ) ρ (s.get i) (a.tmps.getD i undef)) (hn : ∀ d, dst = some d → d < s.n)
  (hm : MRel E w0 M0 ρ' mem' w') (hk : Kept M0 kill ρ w ρ' w') (hr : TRel w' (owned M0 ρ') ρ' r v) : ARel E w0 M0 ((s.after kill mem').put dst r) (a.put dst v) w' where
 defers := by rw [defers_put]; exact hd
 size := by rw [size_put]; cases dst <;> exact hs
 ex := by
  refine ⟨ρ', by cases dst <;> exact hm, ?_, fun i => ?_⟩
  ·rw [defers_put];refine ⟨hmk.1, fun d hd => ?_⟩;obtain ⟨D, h1, h2, h3⟩ := hmk.2 d hd;exact ⟨D, h1, h2, hk (.g (G.mark D)) undef (by cases kill <;> rfl) h3⟩
  rw [get_put, getD_put _ _ _ (fun d h => hs ▸ hn d h)]
  split
  ·exact hr
  ·show TRel _ _ _ (killT kill s.tmps i) _;rw [lookT_killT]
   rcases Bool.eq_false_or_eq_true (noref kill (s.tmps i)) with hno | hno
   ·rw [hno]; exact hk _ _ hno (ht i)
   ·rw [hno]; trivial
theorem wanted_of {ops : Array Oper} {o : Oper} {s : ASt} {a : Act} {w : World} {M : Nat → Prop} {ρ : Rho} {gb : Bool} (h : Wanted ops o s gb)
  (hs : ∀ i, TRel w M ρ (s.get i) (a.tmps.getD i undef)) : Region.wanted o (yielded ops a.tmps) = gb := by
 unfold Wanted at h;unfold Region.wanted
 cases hg : o.guard with
 | none => rw [hg] at h; exact h.symm
 | some jw =>
  obtain ⟨j, want⟩ := jw;rw [hg] at h;obtain ⟨d, h1, h2⟩ := h;have h3 := h2 _ _ _ _ (hs d);rw [Array.getD_eq_getD_getElem?] at h3;simp only [yielded, h1, Option.bind_some];rw [← h3]
  cases hq : a.tmps[d]? with
  | none => rfl
  | some x => cases x <;> rfl
theorem gb_bool (b want : Bool) : GB (.g (.lit (.bool b))) want (b == want) := by
 intro w M ρ v h;rw [show v = .bool b from h]
 cases b <;> cases want <;> rfl
theorem gb_if (c b want : Bool) : GB (bif c then .g (.lit (.bool b)) else undefT) want (c && (b == want)) := by
 intro w M ρ v h
 cases c with
 | true => exact gb_bool b want w M ρ v h
 | false => rw [show v = undef from h]; rfl
theorem MRel.lk {ρ : Rho} {m m' : Mem} {w : World} (h : MRel E w0 M0 ρ m w) (he : ∀ k, lookO m' k = lookO m k) : MRel E w0 M0 ρ m' w where
 below := h.below
 m0 := h.m0
 glob := h.glob
 dom := fun id x hx => by rw [he]; exact h.dom id x hx
 fresh := h.fresh
 inj := h.inj
 keep := h.keep
 lentM := h.lentM
 blk := fun id blk hb => h.blk id blk (by rw [← he]; exact hb)
theorem EffW.lk {o : Oper} {mem m m' : Mem} {ev : Operand → TV} {r : TV} {kill : Option Nat} (h : EffW E o mem ev r m kill) (he : ∀ k, lookO m' k = lookO m k) : EffW E o mem ev r m' kill := by
 intro w0 M0 ρ w e hm hx;have h1 := h w0 M0 ρ w e hm hx;generalize (execOp e o).run E.P w = res at *
 cases res with
 | ok n w' =>
  cases n <;> simp only [UponW] at h1 ⊢
  ·obtain ⟨ρ', k1, k2⟩ := h1; exact ⟨ρ', k1.lk he, k2⟩
  ·obtain ⟨ρ', k1, k2⟩ := h1; exact ⟨ρ', k1.lk he, k2⟩
  ·refine h1.mono ?_;rintro e' w'' ⟨v, rfl, ρ', k1, k2⟩;exact ⟨v, rfl, ρ', k1.lk he, k2⟩
 | halt => exact h1.elim
theorem EffC.toW {c : Cls} {o : Oper} {mem mem' : Mem} {ev : Operand → TV} {r : TV} {kill : Option Nat} (h : EffC E c o mem ev r mem' kill) : EffW E o mem ev r mem' kill := by
 cases c with
 | p => obtain ⟨rfl, rfl, h⟩ := h; exact (h _).toW
 | r => obtain ⟨rfl, rfl, h⟩ := h; exact h.toW
 | w => obtain ⟨rfl, h⟩ := h; exact h
 | k => exact h
 | pn i => obtain ⟨rfl, rfl, h, _⟩ := h; exact (h _).toW
 | kn i => obtain ⟨rfl, h, _⟩ := h; exact h
 | rn i a => obtain ⟨rfl, rfl, ⟨b, hb, h⟩, _⟩ := h; exact (h _ hb.1).toW
 | rq i => obtain ⟨rfl, rfl, b, hb, h⟩ := h; exact (h _ hb).toW
 | al i => obtain ⟨rfl, blk, rfl, hn, h⟩ := h; exact h _ hn
 | wq i => obtain ⟨rfl, blk, he, h⟩ := h; exact (h _ rfl).lk he
theorem callsIn_env {E : Env} {n : Nat} {f : FuncId} {args : Array Value} {w : World} {R : Ending → World → Prop} (h : Calls E.P f args w R) : CallsIn E.F n E.P f args w R := by
 have h1 : CallsIn Fence.wide n E.P f args w R := callsIn_wide.2 h;obtain ⟨P, gl, ord, bow, rnd, mk⟩ := E
 cases rnd with
 | none => exact h1
 | some l => exact CallsIn.inRound l h1
theorem env_room {E : Env} {n : Nat} : E.F.depth.isSome = true → 1 ≤ n := fun h => by simp [Env.F] at h
theorem semAt_of_upon {ρ : Rho} {w : World} {mem' : Mem} {r : TV} {kill : Option Nat} {e : Operand → Value} {o : Oper} (h : UponW E w0 M0 ρ w mem' r kill ((execOp e o).run E.P w)) : o.semAt E.F.round e = execOp e o := by
 cases hro : E.F.round with
 | none => rfl
 | some l =>
  refine Oper.semAt_some l _ _ fun c hc => ?_;simp only [execOp, hc, Sem.run_bind] at h
  cases hq : (resolve e c o.type).run E.P w with
  | ok d w' => rw [hq] at h; exact h
  | halt x w' => rw [hq] at h; exact h
theorem AStep.sound {ops : Array Oper} {o : Oper} {c : Cls} {s s' : ASt} (h : AStep E ops o c s s') {a : Act} {w : World} (ha : ARel E w0 M0 s a w) {K : Act → World → Prop} {Q : Exit → Act → World → Prop}
  (hK : ∀ a' w', ARel E w0 M0 s' a' w' → K a' w') :
  if Region.wanted o (yielded ops a.tmps) then o.wpIn E.F 0 E.P a w K Q else (∀ f, o.about E.P w a.eval = some f → E.F.fn f) ∧ K (a.put o.dst undef) w := by
 obtain ⟨hn, gb, r, mem', kill, hw, h1, h2, rfl⟩ := h;obtain ⟨ρ, hm, hmk, ht⟩ := ha.ex;rw [wanted_of hw ht]
 cases gb with
 | false =>
  obtain ⟨rfl, rfl, rfl⟩ := h2 rfl;simp only [Bool.false_eq_true, if_false];exact ⟨fun _ _ => trivial, hK _ _ (ARel.put ha.defers ha.size hmk ht hn hm (fun _ _ _ h => h) rfl)⟩
 | true =>
  simp only [if_true];refine ⟨fun _ _ => trivial, ?_⟩;have hW := (h1 rfl).toW w0 M0 ρ w a.eval hm (fun x _ => eval_rel hm ht x);rw [semAt_of_upon hW];generalize (execOp a.eval o).run E.P w = res at *
  cases res with
  | ok n w' =>
   cases n <;> simp only [UponW] at hW <;> simp only [Oper.uponIn]
   case value v => obtain ⟨ρ', h1, h2, h3⟩ := hW; exact hK _ _ (ARel.put ha.defers ha.size hmk ht hn h1 h2 h3)
   case skip => obtain ⟨ρ', h1, h2, h3⟩ := hW; exact hK _ _ (ARel.put ha.defers ha.size hmk ht hn h1 h2 h3)
   case enter f args =>
    refine ⟨env_room, callsIn_env (hW.mono ?_)⟩;rintro e w'' ⟨v, rfl, ρ', h1, h2, h3⟩;exact hK _ _ (ARel.put ha.defers ha.size hmk ht hn h1 h2 h3)
  | halt => exact hW.elim
theorem aops_sound {ops : Array Oper} {Q : Exit → ASt → Prop} : ∀ (l : List Oper) (cs : List Cls) (s : ASt), AOps E ops l cs s (Q .normal) → ∀ a w, ARel E w0 M0 s a w →
  wpListIn E.F 0 E.P ops (fun e a' w' => ∃ s', ARel E w0 M0 s' a' w' ∧ Q e s') l a w
 | [], [], s, h, a, w, ha => ⟨s, ha, h⟩
 | o :: os, c :: cs, s, h, a, w, ha => by
  obtain ⟨s', h1, h2⟩ := h;exact h1.sound ha fun a' w' ha' => aops_sound os cs s' h2 a' w' ha'
 | [], _ :: _, _, h, _, _, _ => h.elim
 | _ :: _, [], _, h, _, _, _ => h.elim
theorem aw_region {id : Nat} {ops : Array Oper} {Q : Exit → ASt → Prop} {s : ASt} (cs : List Cls) (h : AOps E ops ops.toList cs s (Q .normal)) : AWp E w0 M0 (.region id ops false) Q s :=
 fun a w ha => wpIn_region_list (aops_sound _ cs s h a w ha)
end
section
variable {E : Env} {w0 : World} {M0 : Nat → Prop}
theorem Eff.congr {o : Oper} {mem : Mem} {ev ev' : Operand → TV} {r : TV} (h : Eff E o mem ev r) (he : ∀ x ∈ o.op.operands, ev x = ev' x) : Eff E o mem ev' r :=
 fun w0 M0 ρ w e hm hx => h w0 M0 ρ w e hm fun x hm => by rw [he x hm]; exact hx x hm
theorem EffW.congr {o : Oper} {mem mem' : Mem} {ev ev' : Operand → TV} {r : TV} {kill : Option Nat} (h : EffW E o mem ev r mem' kill) (he : ∀ x ∈ o.op.operands, ev x = ev' x) : EffW E o mem ev' r mem' kill :=
 fun w0 M0 ρ w e hm hx => h w0 M0 ρ w e hm fun x hm => by rw [he x hm]; exact hx x hm
theorem EffC.congr {c : Cls} {o : Oper} {mem mem' : Mem} {ev ev' : Operand → TV} {r : TV} {kill : Option Nat} (h : EffC E c o mem ev r mem' kill) (he : ∀ x ∈ o.op.operands, ev x = ev' x) : EffC E c o mem ev' r mem' kill := by
 cases c with
 | p => exact ⟨h.1, h.2.1, fun m => (h.2.2 m).congr he⟩
 | r => exact ⟨h.1, h.2.1, h.2.2.congr he⟩
 | w => exact ⟨h.1, h.2.congr he⟩
 | k => exact EffW.congr h he
 | pn i => exact ⟨h.1, h.2.1, fun m => (h.2.2.1 m).congr he, fun x hx => by rw [← he x hx]; exact h.2.2.2.1 x hx, h.2.2.2.2⟩
 | kn i => exact ⟨h.1, h.2.1.congr he, h.2.2⟩
 | rn i a => obtain ⟨h1, h2, ⟨b, hb, h⟩, h3, h4⟩ := h; exact ⟨h1, h2, ⟨b, hb, fun m hm => (h m hm).congr he⟩, fun x hx => by rw [← he x hx]; exact h3 x hx, h4⟩
 | rq i => obtain ⟨h1, h2, b, hb, h⟩ := h; exact ⟨h1, h2, b, hb, fun m hm => (h m hm).congr he⟩
 | al i => obtain ⟨h1, blk, h2, hn, h⟩ := h; exact ⟨h1, blk, h2, hn, fun m hm => (h m hm).congr he⟩
 | wq i => obtain ⟨h1, blk, h2, h⟩ := h; exact ⟨h1, blk, h2, fun m hm => (h m hm).congr he⟩
theorem eval_updO {ops : Array Oper} {o : Oper} {s : ASt} {d : Option Nat} {v : TV} {m : Mem} (h : ∀ i, d = some i → i ∉ o.looksAt ops) :
  ∀ x ∈ o.op.operands, (⟨s.n, updO d v s.tmps, m⟩ : ASt).eval E x = s.eval E x := by
 intro x hx
 cases x with
 | tmp t =>
  show updO d v s.tmps t = s.tmps t;rw [updO_eq, if_neg];intro e;exact h t e (List.mem_append_left _ (List.mem_filterMap.2 ⟨.tmp t, by simpa using hx, rfl⟩))
 | const v => rfl
 | func f => rfl
 | global g => rfl
theorem wanted_updO {ops : Array Oper} {o : Oper} {s : ASt} {d : Option Nat} {v : TV} {m : Mem} {gb : Bool} (h : ∀ i, d = some i → i ∉ o.looksAt ops) :
  Wanted ops o ⟨s.n, updO d v s.tmps, m⟩ gb ↔ Wanted ops o s gb := by
 unfold Wanted
 cases hg : o.guard with
 | none => exact Iff.rfl
 | some jw =>
  obtain ⟨j, want⟩ := jw
  have key : ∀ d', (ops[j]?).bind (·.dst) = some d' → updO d v s.tmps d' = s.tmps d' := by
   intro d' hd';rw [updO_eq, if_neg];intro e;exact h d' e (by simp [Oper.looksAt, hg, hd'])
  constructor
  ·rintro ⟨d', h1, h2⟩;refine ⟨d', h1, ?_⟩;have h2' : GB (updO d v s.tmps d') want gb := h2;rw [key d' h1] at h2';exact h2'
  ·rintro ⟨d', h1, h2⟩;refine ⟨d', h1, ?_⟩;show GB (updO d v s.tmps d') want gb;rw [key d' h1];exact h2
theorem AStep.parts {ops : Array Oper} {o : Oper} {c : Cls} {s s' : ASt} (hc : c ≠ .k ∧ ∀ i, c ≠ .kn i) (h : AStep E ops o c s s') :
  (∀ d, o.dst = some d → d < s.n) ∧ ∃ gb r m, Wanted ops o s gb ∧ (gb = true → EffC E c o s.mem (s.eval E) r m none) ∧ (gb = false → r = undefT) ∧
   ((c = .p ∨ c = .r ∨ gb = false ∨ ∃ i, (c = .pn i ∨ c = .rq i ∨ ∃ a, c = .rn i a)) → m = s.mem) ∧ s' = ⟨s.n, updO o.dst r s.tmps, m⟩ := by
 obtain ⟨h0, gb, r, m, kill, h1, h2, h3, h4⟩ := h
 have hk : kill = none := by
  cases gb with
  | false => exact (h3 rfl).2.1
  | true =>
   have := h2 rfl
   cases c with
   | p => exact this.2.1
   | r => exact this.2.1
   | w => exact this.1
   | k => exact absurd rfl hc.1
   | pn i => exact this.2.1
   | kn i => exact absurd rfl (hc.2 i)
   | rq i => exact this.2.1
   | al i => exact this.1
   | wq i => exact this.1
   | rn i a => exact this.2.1
 subst hk;refine ⟨h0, gb, r, m, h1, h2, fun e => (h3 e).2.2, fun e => ?_, h4⟩
 cases gb with
 | false => exact (h3 rfl).1
 | true =>
  have := h2 rfl
  rcases e with rfl | rfl | e | ⟨i, rfl | rfl | ⟨a, rfl⟩⟩
  ·exact this.1
  ·exact this.1
  ·cases e
  ·exact this.1
  ·exact this.1
  ·exact this.1
theorem AStep.ofParts {ops : Array Oper} {o : Oper} {c : Cls} {s : ASt} {gb : Bool} {r : TV} {m : Mem} (h0 : ∀ d, o.dst = some d → d < s.n) (h1 : Wanted ops o s gb)
  (h2 : gb = true → EffC E c o s.mem (s.eval E) r m none) (h3 : gb = false → r = undefT) (h4 : gb = false → m = s.mem) : AStep E ops o c s ⟨s.n, updO o.dst r s.tmps, m⟩ :=
 ⟨h0, gb, r, m, none, h1, h2, fun e => ⟨h4 e, rfl, h3 e⟩, rfl⟩
theorem EffC.anyMem {c : Cls} {o : Oper} {mem mem2 : Mem} {ev : Operand → TV} {r : TV} (hp : c = .p ∨ ∃ i, c = .pn i) (h : EffC E c o mem ev r mem none) : EffC E c o mem2 ev r mem2 none := by
 rcases hp with rfl | ⟨i, rfl⟩
 ·exact ⟨rfl, rfl, h.2.2⟩
 ·exact ⟨rfl, rfl, h.2.2⟩
theorem AStep.swap1 {ops : Array Oper} {oi oj : Oper} {ci cj : Cls} {s u t : ASt} (hap : oi.apart ops oj = true) (hok : Cls.ok ci cj = true) (nki : ∀ a, ci ≠ .kn a) (nkj : ∀ a, cj ≠ .kn a) (nra : ∀ a b, ci = .rq a → cj ≠ .al b) (nar : ∀ a b, ci = .al a → cj ≠ .rq b) (nww : ∀ a b, ci = .wq a → cj ≠ .wq b ∧ cj ≠ .rq b) (nrw : ∀ a b, ci = .rq a → cj ≠ .wq b) (nrn : ∀ i a, ci ≠ .rn i a) (nrn' : ∀ i a, cj ≠ .rn i a) (hi : AStep E ops oi ci s u) (hj : AStep E ops oj cj u t) :
  ∃ s2, AStep E ops oj cj s s2 ∧ AStep E ops oi ci s2 t := by
 obtain ⟨a1, a2, a3⟩ := Oper.apart_spec hap;have hci : ci ≠ .k ∧ ∀ i, ci ≠ .kn i := ⟨by intro e; subst e; cases cj <;> simp [Cls.ok] at hok, nki⟩;have hcj : cj ≠ .k ∧ ∀ i, cj ≠ .kn i := ⟨by intro e; subst e; cases ci <;> simp [Cls.ok] at hok, nkj⟩;obtain ⟨i0, gi, ri, mi, i1, i2, i3, i4, rfl⟩ := hi.parts hci;obtain ⟨j0, gj, rj, mj, j1, j2, j3, j4, rfl⟩ := hj.parts hcj;have hev : ∀ m, ∀ x ∈ oj.op.operands, (⟨s.n, updO oi.dst ri s.tmps, m⟩ : ASt).eval E x = s.eval E x := fun m => eval_updO a1;have hev2 : ∀ m, ∀ x ∈ oi.op.operands, (⟨s.n, updO oj.dst rj s.tmps, m⟩ : ASt).eval E x = s.eval E x := fun m => eval_updO a3;have hwj : Wanted ops oj s gj := (wanted_updO a1).1 j1;have hcomm : updO oj.dst rj (updO oi.dst ri s.tmps) = updO oi.dst ri (updO oj.dst rj s.tmps) := (updO_comm a2 ri rj s.tmps).symm;dsimp only at j0 j2 j4 ⊢
 -- which of the two leaves the memory alone
 by_cases hp : ci = .p ∨ ∃ i, ci = .pn i
 ·have hm : mi = s.mem := i4 (hp.elim .inl fun ⟨i, h⟩ => .inr (.inr (.inr ⟨i, .inl h⟩)));subst hm;refine ⟨⟨s.n, updO oj.dst rj s.tmps, mj⟩, AStep.ofParts j0 hwj (fun e => (j2 e).congr (hev _)) j3 (fun e => j4 (.inr (.inr (.inl e)))), ?_⟩;rw [hcomm];exact AStep.ofParts (s := ⟨s.n, updO oj.dst rj s.tmps, mj⟩) i0 ((wanted_updO a3).2 i1) (fun e => ((i2 e).anyMem hp).congr (fun x hx => (hev2 _ x hx).symm)) i3 (fun _ => rfl)
 ·have hcj2 : cj = .p ∨ ((ci = .r ∨ ∃ i, ci = .rq i) ∧ (cj = .r ∨ ∃ i, cj = .rq i)) ∨ ∃ i, cj = .pn i := by
   cases ci with
   | p => exact absurd (.inl rfl) hp
   | pn i => exact absurd (.inr ⟨i, rfl⟩) hp
   | k => exact absurd rfl hci.1
   | kn i => exact absurd rfl (hci.2 i)
   | rn i a => exact absurd rfl (nrn i a)
   | r => cases cj <;> simp [Cls.ok] at hok <;> simp
   | w => cases cj <;> simp [Cls.ok] at hok <;> simp
   | rq i => cases cj <;> first | exact absurd rfl (nra _ _ rfl) | exact absurd rfl (nrw _ _ rfl) | (simp [Cls.ok] at hok; done) | simp
   | wq i => cases cj <;> first | exact absurd rfl (nww _ _ rfl).1 | exact absurd rfl (nww _ _ rfl).2 | (simp [Cls.ok] at hok; done) | simp
   | al i => cases cj <;> first | exact absurd rfl (nar _ _ rfl) | (simp [Cls.ok] at hok; done) | simp
  have hmj : mj = mi := by
   refine j4 ?_
   rcases hcj2 with h | ⟨_, h | ⟨i, h⟩⟩ | ⟨i, h⟩
   ·exact .inl h
   ·exact .inr (.inl h)
   ·exact .inr (.inr (.inr ⟨i, .inr (.inl h)⟩))
   ·exact .inr (.inr (.inr ⟨i, .inl h⟩))
  subst hmj
  have hji : gj = true → EffC E cj oj s.mem (s.eval E) rj s.mem none := by
   intro e;have := (j2 e).congr (hev _)
   rcases hcj2 with h | ⟨h1, h2⟩ | h
   ·exact this.anyMem (.inl h)
   ·have hm : mj = s.mem := i4 (by
     rcases h1 with h1 | ⟨i, h1⟩
     ·exact .inr (.inl h1)
     ·exact .inr (.inr (.inr ⟨i, .inr (.inl h1)⟩)))
    rw [hm] at this;exact this
   ·exact this.anyMem (.inr h)
  refine ⟨⟨s.n, updO oj.dst rj s.tmps, s.mem⟩, AStep.ofParts j0 hwj hji j3 (fun _ => rfl), ?_⟩;rw [hcomm];exact AStep.ofParts (s := ⟨s.n, updO oj.dst rj s.tmps, s.mem⟩) i0 ((wanted_updO a3).2 i1) (fun e => (i2 e).congr (fun x hx => (hev2 _ x hx).symm)) i3 (fun e => i4 (.inr (.inr (.inl e))))
theorem killT_updO {i : Nat} {d : Option Nat} {r : TV} {f : Nat → TV} (h : noname i r = true) : killT (some i) (updO d r f) = updO d r (killT (some i) f) := by
 funext x
 have hr : noref (some i) r = true := by cases r <;> first | rfl | exact h
 show (bif noref (some i) (updO d r f x) then updO d r f x else .any) = _;simp only [updO_eq]
 by_cases hx : d = some x
 ·simp only [if_pos hx, hr]; rfl
 ·simp only [if_neg hx]; rfl
theorem killT_noname {i x : Nat} {f : Nat → TV} (h : noname i (f x) = true) : killT (some i) f x = f x := by
 show (bif noref (some i) (f x) then f x else .any) = _
 have hr : noref (some i) (f x) = true := by cases hf : f x <;> rw [hf] at h <;> first | rfl | exact h
 rw [hr]; rfl
theorem noname_killT {i x : Nat} {f : Nat → TV} (h : noname i (killT (some i) f x) = true) : killT (some i) f x = f x := by
 have h' : noname i (bif noref (some i) (f x) then f x else .any) = true := h;show (bif noref (some i) (f x) then f x else .any) = _
 cases hr : noref (some i) (f x) with
 | true => rfl
 | false => rw [hr] at h'; cases h'
theorem eval_kill {i : Nat} {s : ASt} {d : Option Nat} {v : TV} {m : Mem} {ops : Array Oper} {o : Oper} (hd : ∀ k, d = some k → k ∉ o.looksAt ops) (hn : ∀ x ∈ o.op.operands, noname i (s.eval E x) = true) :
  ∀ x ∈ o.op.operands, (⟨s.n, updO d v (killT (some i) s.tmps), m⟩ : ASt).eval E x = s.eval E x := by
 intro x hx;have h1 := eval_updO (E := E) (s := ⟨s.n, killT (some i) s.tmps, m⟩) (v := v) (m := m) hd x hx;refine h1.trans ?_
 cases x with
 | tmp t => exact killT_noname (hn _ hx)
 | const v => rfl
 | func f => rfl
 | global g => rfl
theorem wanted_none {ops : Array Oper} {o : Oper} {s : ASt} {gb : Bool} (h : o.guard = none) (hw : Wanted ops o s gb) : gb = true := by
 unfold Wanted at hw; rw [h] at hw; exact hw
theorem wanted_of_none {ops : Array Oper} {o : Oper} {s : ASt} (h : o.guard = none) : Wanted ops o s true := by
 unfold Wanted; rw [h]
theorem AStep.swap_pk {ops : Array Oper} {oi oj : Oper} {a : Nat} {s u t : ASt} (hap : oi.apart ops oj = true) (gi : oi.guard = none) (gj : oj.guard = none) (hi : AStep E ops oi (.pn a) s u) (hj : AStep E ops oj (.kn a) u t) :
  ∃ s2, AStep E ops oj (.kn a) s s2 ∧ AStep E ops oi (.pn a) s2 t := by
 obtain ⟨a1, a2, a3⟩ := Oper.apart_spec hap;obtain ⟨i0, gbi, ri, mi, ki, iw, i1, _, rfl⟩ := hi;obtain ⟨j0, gbj, rj, mj, kj, jw, j1, _, rfl⟩ := hj;obtain rfl := wanted_none gi iw;obtain rfl := wanted_none gj jw;obtain ⟨rfl, rfl, i2, i3, i4⟩ := i1 rfl;obtain ⟨rfl, j2, j5⟩ := j1 rfl;have hj2 : EffW E oj s.mem (s.eval E) rj mj (some a) := j2.congr (eval_updO (E := E) (s := s) a1);refine ⟨⟨s.n, updO oj.dst rj (killT (some a) s.tmps), mj⟩, ⟨j0, true, rj, mj, some a, wanted_of_none gj, fun _ => ⟨rfl, hj2, j5⟩, (fun h => by cases h), rfl⟩, ⟨i0, true, ri, mj, none, wanted_of_none gi, fun _ => ?_, (fun h => by cases h), ?_⟩⟩
 ·have hev := eval_kill (E := E) (m := mj) (v := rj) (d := oj.dst) (ops := ops) (o := oi) (s := s) (i := a) a3 i3;exact ⟨rfl, rfl, fun m => (i2 m).congr (fun x hx => (hev x hx).symm), fun x hx => by rw [hev x hx]; exact i3 x hx, i4⟩
 ·show (⟨s.n, updO oj.dst rj (killT (some a) (updO oi.dst ri s.tmps)), mj⟩ : ASt) = ⟨s.n, updO oi.dst ri (updO oj.dst rj (killT (some a) s.tmps)), mj⟩;rw [killT_updO i4, updO_comm a2 ri rj]
theorem AStep.swap_kp {ops : Array Oper} {oi oj : Oper} {a : Nat} {s u t : ASt} (hap : oi.apart ops oj = true) (gi : oi.guard = none) (gj : oj.guard = none) (hi : AStep E ops oi (.kn a) s u) (hj : AStep E ops oj (.pn a) u t) :
  ∃ s2, AStep E ops oj (.pn a) s s2 ∧ AStep E ops oi (.kn a) s2 t := by
 obtain ⟨a1, a2, a3⟩ := Oper.apart_spec hap;obtain ⟨i0, gbi, ri, mi, ki, iw, i1, _, rfl⟩ := hi;obtain ⟨j0, gbj, rj, mj, kj, jw, j1, _, rfl⟩ := hj;obtain rfl := wanted_none gi iw;obtain rfl := wanted_none gj jw;obtain ⟨rfl, i2, i5⟩ := i1 rfl;obtain ⟨rfl, rfl, j2, j3, j4⟩ := j1 rfl
 have hev : ∀ x ∈ oj.op.operands, (⟨s.n, updO oi.dst ri (killT (some a) s.tmps), mj⟩ : ASt).eval E x = s.eval E x := by
  intro x hx;have h1 := eval_updO (E := E) (s := ⟨s.n, killT (some a) s.tmps, mj⟩) (v := ri) (m := mj) a1 x hx;have h3 := j3 x hx;rw [show ((s.after (some a) mj).put oi.dst ri).eval E x = _ from h1] at h3;refine h1.trans ?_
  cases x with
  | tmp t => exact noname_killT h3
  | const v => rfl
  | func f => rfl
  | global g => rfl
 refine ⟨⟨s.n, updO oj.dst rj s.tmps, s.mem⟩, ⟨j0, true, rj, s.mem, none, wanted_of_none gj, fun _ => ⟨rfl, rfl, fun m => (j2 m).congr hev, fun x hx => by rw [← hev x hx]; exact j3 x hx, j4⟩, (fun h => by cases h), rfl⟩,
  ⟨i0, true, ri, mj, some a, wanted_of_none gi, fun _ => ⟨rfl, i2.congr fun x hx => (eval_updO (E := E) (s := s) (v := rj) (m := s.mem) a3 x hx).symm, i5⟩, (fun h => by cases h), ?_⟩⟩
 show (⟨s.n, updO oj.dst rj (updO oi.dst ri (killT (some a) s.tmps)), mj⟩ : ASt) = ⟨s.n, updO oi.dst ri (killT (some a) (updO oj.dst rj s.tmps)), mj⟩;rw [killT_updO j4, updO_comm a2 ri rj]
theorem AStep.swap_ra {ops : Array Oper} {oi oj : Oper} {a b : Nat} {s u t : ASt} (hab : a ≠ b) (hap : oi.apart ops oj = true) (hi : AStep E ops oi (.rq a) s u) (hj : AStep E ops oj (.al b) u t) :
  ∃ s2, AStep E ops oj (.al b) s s2 ∧ AStep E ops oi (.rq a) s2 t := by
 obtain ⟨a1, a2, a3⟩ := Oper.apart_spec hap;obtain ⟨i0, gi, ri, mi, i1, i2, i3, i4, rfl⟩ := hi.parts ⟨(by simp), (by simp)⟩;obtain ⟨j0, gj, rj, mj, j1, j2, j3, j4, rfl⟩ := hj.parts ⟨(by simp), (by simp)⟩;have hev : ∀ m, ∀ x ∈ oj.op.operands, (⟨s.n, updO oi.dst ri s.tmps, m⟩ : ASt).eval E x = s.eval E x := fun m => eval_updO a1;have hev2 : ∀ m, ∀ x ∈ oi.op.operands, (⟨s.n, updO oj.dst rj s.tmps, m⟩ : ASt).eval E x = s.eval E x := fun m => eval_updO a3;have hwj : Wanted ops oj s gj := (wanted_updO a1).1 j1;have hcomm : updO oj.dst rj (updO oi.dst ri s.tmps) = updO oi.dst ri (updO oj.dst rj s.tmps) := (updO_comm a2 ri rj s.tmps).symm;have hm : mi = s.mem := i4 (.inr (.inr (.inr ⟨a, .inr (.inl rfl)⟩)));subst hm;dsimp only at j0 j2 j4 ⊢;refine ⟨⟨s.n, updO oj.dst rj s.tmps, mj⟩, AStep.ofParts j0 hwj (fun e => (j2 e).congr (hev _)) j3 (fun e => j4 (.inr (.inr (.inl e)))), ?_⟩;rw [hcomm];refine AStep.ofParts (s := ⟨s.n, updO oj.dst rj s.tmps, mj⟩) i0 ((wanted_updO a3).2 i1) (fun e => ?_) i3 (fun _ => rfl);obtain ⟨_, _, bk, hb, h⟩ := i2 e;refine ⟨rfl, rfl, bk, ?_, fun m hm => (h m hm).congr (fun x hx => (hev2 _ x hx).symm)⟩
 cases gj with
 | false => rw [show mj = s.mem from j4 (.inr (.inr (.inl rfl)))]; exact hb
 | true =>
  obtain ⟨_, blk, hmj, hn, _⟩ := j2 rfl;show lookO mj a = some bk;rw [hmj]
  have hne : Nat.beq b a = false := by
   cases h : Nat.beq b a
   ·rfl
   ·exact absurd (Nat.eq_of_beq_eq_true h).symm hab
  simp only [lookO, hne, cond_false];exact hb
theorem AStep.swap_ar {ops : Array Oper} {oi oj : Oper} {a b : Nat} {s u t : ASt} (hab : a ≠ b) (hap : oi.apart ops oj = true) (hi : AStep E ops oi (.al a) s u) (hj : AStep E ops oj (.rq b) u t) :
  ∃ s2, AStep E ops oj (.rq b) s s2 ∧ AStep E ops oi (.al a) s2 t := by
 obtain ⟨a1, a2, a3⟩ := Oper.apart_spec hap;obtain ⟨i0, gi, ri, mi, i1, i2, i3, i4, rfl⟩ := hi.parts ⟨(by simp), (by simp)⟩;obtain ⟨j0, gj, rj, mj, j1, j2, j3, j4, rfl⟩ := hj.parts ⟨(by simp), (by simp)⟩;have hev : ∀ m, ∀ x ∈ oj.op.operands, (⟨s.n, updO oi.dst ri s.tmps, m⟩ : ASt).eval E x = s.eval E x := fun m => eval_updO a1;have hev2 : ∀ m, ∀ x ∈ oi.op.operands, (⟨s.n, updO oj.dst rj s.tmps, m⟩ : ASt).eval E x = s.eval E x := fun m => eval_updO a3;have hwj : Wanted ops oj s gj := (wanted_updO a1).1 j1;have hcomm : updO oj.dst rj (updO oi.dst ri s.tmps) = updO oi.dst ri (updO oj.dst rj s.tmps) := (updO_comm a2 ri rj s.tmps).symm;have hm : mj = mi := j4 (.inr (.inr (.inr ⟨b, .inr (.inl rfl)⟩)));subst hm;dsimp only at j0 j2 j4 ⊢;refine ⟨⟨s.n, updO oj.dst rj s.tmps, s.mem⟩, AStep.ofParts j0 hwj (fun e => ?_) j3 (fun _ => rfl), ?_⟩
 ·obtain ⟨_, _, bk, hb, h⟩ := j2 e;refine ⟨rfl, rfl, bk, ?_, fun m hm => (h m hm).congr (hev _)⟩
  cases gi with
  | false => rw [show mj = s.mem from i4 (.inr (.inr (.inl rfl)))] at hb; exact hb
  | true =>
   obtain ⟨_, blk, hmi, hn, _⟩ := i2 rfl;have hb : lookO mj b = some bk := hb
   have hne : Nat.beq a b = false := by
    cases h : Nat.beq a b
    ·rfl
    ·exact absurd (Nat.eq_of_beq_eq_true h) hab
   rw [hmi] at hb;simp only [lookO, hne, cond_false] at hb;exact hb
 ·rw [hcomm];exact AStep.ofParts (s := ⟨s.n, updO oj.dst rj s.tmps, s.mem⟩) i0 ((wanted_updO a3).2 i1) (fun e => (i2 e).congr (fun x hx => (hev2 _ x hx).symm)) i3 (fun e => i4 (.inr (.inr (.inl e))))
theorem lookO_swap {m : Mem} {a b : Nat} {x y : Blk} (hab : a ≠ b) (k : Nat) : lookO ((a, x) :: (b, y) :: m) k = lookO ((b, y) :: (a, x) :: m) k := by
 simp only [lookO]
 cases h1 : Nat.beq a k
 ·rfl
 ·cases h2 : Nat.beq b k
  ·rfl
  ·exact absurd ((Nat.eq_of_beq_eq_true h1).trans (Nat.eq_of_beq_eq_true h2).symm) hab
theorem lookO_ne {m : Mem} {a b : Nat} {x : Blk} (hab : a ≠ b) : lookO ((a, x) :: m) b = lookO m b := by
 have hne : Nat.beq a b = false := by
  cases h : Nat.beq a b
  ·rfl
  ·exact absurd (Nat.eq_of_beq_eq_true h) hab
 simp only [lookO, hne, cond_false]
theorem lookO_cons {m m' : Mem} (h : ∀ k, lookO m k = lookO m' k) (p : Nat × Blk) (k : Nat) : lookO (p :: m) k = lookO (p :: m') k := by
 obtain ⟨a, x⟩ := p;simp only [lookO, h]
theorem AStep.swap_ww {ops : Array Oper} {oi oj : Oper} {a b : Nat} {s u t : ASt} (hab : a ≠ b) (hap : oi.apart ops oj = true) (hi : AStep E ops oi (.wq a) s u) (hj : AStep E ops oj (.wq b) u t) :
  ∃ s2, AStep E ops oj (.wq b) s s2 ∧ AStep E ops oi (.wq a) s2 t := by
 obtain ⟨a1, a2, a3⟩ := Oper.apart_spec hap;obtain ⟨i0, gi, ri, mi, i1, i2, i3, i4, rfl⟩ := hi.parts ⟨(by simp), (by simp)⟩;obtain ⟨j0, gj, rj, mj, j1, j2, j3, j4, rfl⟩ := hj.parts ⟨(by simp), (by simp)⟩;have hev : ∀ m, ∀ x ∈ oj.op.operands, (⟨s.n, updO oi.dst ri s.tmps, m⟩ : ASt).eval E x = s.eval E x := fun m => eval_updO a1;have hev2 : ∀ m, ∀ x ∈ oi.op.operands, (⟨s.n, updO oj.dst rj s.tmps, m⟩ : ASt).eval E x = s.eval E x := fun m => eval_updO a3;have hwj : Wanted ops oj s gj := (wanted_updO a1).1 j1;have hcomm : updO oj.dst rj (updO oi.dst ri s.tmps) = updO oi.dst ri (updO oj.dst rj s.tmps) := (updO_comm a2 ri rj s.tmps).symm;dsimp only at j0 j2 j4 ⊢
 cases gi with
 | false =>
  have hm : mi = s.mem := i4 (.inr (.inr (.inl rfl)));subst hm;refine ⟨⟨s.n, updO oj.dst rj s.tmps, mj⟩, AStep.ofParts j0 hwj (fun e => (j2 e).congr (hev _)) j3 (fun e => j4 (.inr (.inr (.inl e)))), ?_⟩;rw [hcomm];exact AStep.ofParts (s := ⟨s.n, updO oj.dst rj s.tmps, mj⟩) i0 ((wanted_updO a3).2 i1) (fun e => by cases e) i3 (fun _ => rfl)
 | true =>
  obtain ⟨_, bi, hmi, hi2⟩ := i2 rfl
  cases gj with
  | false =>
   have hm : mj = mi := j4 (.inr (.inr (.inl rfl)));subst hm;refine ⟨⟨s.n, updO oj.dst rj s.tmps, s.mem⟩, AStep.ofParts j0 hwj (fun e => by cases e) j3 (fun _ => rfl), ?_⟩;rw [hcomm];exact AStep.ofParts (s := ⟨s.n, updO oj.dst rj s.tmps, s.mem⟩) i0 ((wanted_updO a3).2 i1) (fun e => (i2 e).congr (fun x hx => (hev2 _ x hx).symm)) i3 (fun e => by cases e)
  | true =>
   obtain ⟨_, bj, hmj, hj2⟩ := j2 rfl;refine ⟨⟨s.n, updO oj.dst rj s.tmps, (b, bj) :: s.mem⟩, AStep.ofParts j0 hwj (fun _ => ⟨rfl, bj, fun _ => rfl, fun m hm => (hj2 m ?_).congr (hev _)⟩) j3 (fun e => by cases e), ?_⟩
   ·rw [hm, hmi, lookO_ne hab]
   ·rw [hcomm];refine AStep.ofParts (s := ⟨s.n, updO oj.dst rj s.tmps, (b, bj) :: s.mem⟩) i0 ((wanted_updO a3).2 i1) (fun _ => ⟨rfl, bi, fun k => ?_, fun m hm => (hi2 m ?_).congr (fun x hx => (hev2 _ x hx).symm)⟩) i3 (fun e => by cases e)
    ·rw [hmj, lookO_cons hmi, lookO_swap (Ne.symm hab)]
    ·rw [hm]; exact lookO_ne (Ne.symm hab)
theorem AStep.swap_wr {ops : Array Oper} {oi oj : Oper} {a b : Nat} {s u t : ASt} (hab : a ≠ b) (hap : oi.apart ops oj = true) (hi : AStep E ops oi (.wq a) s u) (hj : AStep E ops oj (.rq b) u t) :
  ∃ s2, AStep E ops oj (.rq b) s s2 ∧ AStep E ops oi (.wq a) s2 t := by
 obtain ⟨a1, a2, a3⟩ := Oper.apart_spec hap;obtain ⟨i0, gi, ri, mi, i1, i2, i3, i4, rfl⟩ := hi.parts ⟨(by simp), (by simp)⟩;obtain ⟨j0, gj, rj, mj, j1, j2, j3, j4, rfl⟩ := hj.parts ⟨(by simp), (by simp)⟩;have hev : ∀ m, ∀ x ∈ oj.op.operands, (⟨s.n, updO oi.dst ri s.tmps, m⟩ : ASt).eval E x = s.eval E x := fun m => eval_updO a1;have hev2 : ∀ m, ∀ x ∈ oi.op.operands, (⟨s.n, updO oj.dst rj s.tmps, m⟩ : ASt).eval E x = s.eval E x := fun m => eval_updO a3;have hwj : Wanted ops oj s gj := (wanted_updO a1).1 j1;have hcomm : updO oj.dst rj (updO oi.dst ri s.tmps) = updO oi.dst ri (updO oj.dst rj s.tmps) := (updO_comm a2 ri rj s.tmps).symm;have hm : mj = mi := j4 (.inr (.inr (.inr ⟨b, .inr (.inl rfl)⟩)));subst hm;dsimp only at j0 j2 j4 ⊢;refine ⟨⟨s.n, updO oj.dst rj s.tmps, s.mem⟩, AStep.ofParts j0 hwj (fun e => ?_) j3 (fun _ => rfl), ?_⟩
 ·obtain ⟨_, _, bk, hb, h⟩ := j2 e;refine ⟨rfl, rfl, bk, ?_, fun m hm => (h m hm).congr (hev _)⟩
  cases gi with
  | false => rw [show mj = s.mem from i4 (.inr (.inr (.inl rfl)))] at hb; exact hb
  | true =>
   obtain ⟨_, blk, hmi, _⟩ := i2 rfl;have hb : lookO mj b = some bk := hb;rw [hmi, lookO_ne hab] at hb;exact hb
 ·rw [hcomm];exact AStep.ofParts (s := ⟨s.n, updO oj.dst rj s.tmps, s.mem⟩) i0 ((wanted_updO a3).2 i1) (fun e => (i2 e).congr (fun x hx => (hev2 _ x hx).symm)) i3 (fun e => i4 (.inr (.inr (.inl e))))
theorem AStep.swap_rw {ops : Array Oper} {oi oj : Oper} {a b : Nat} {s u t : ASt} (hab : a ≠ b) (hap : oi.apart ops oj = true) (hi : AStep E ops oi (.rq a) s u) (hj : AStep E ops oj (.wq b) u t) :
  ∃ s2, AStep E ops oj (.wq b) s s2 ∧ AStep E ops oi (.rq a) s2 t := by
 obtain ⟨a1, a2, a3⟩ := Oper.apart_spec hap;obtain ⟨i0, gi, ri, mi, i1, i2, i3, i4, rfl⟩ := hi.parts ⟨(by simp), (by simp)⟩;obtain ⟨j0, gj, rj, mj, j1, j2, j3, j4, rfl⟩ := hj.parts ⟨(by simp), (by simp)⟩;have hev : ∀ m, ∀ x ∈ oj.op.operands, (⟨s.n, updO oi.dst ri s.tmps, m⟩ : ASt).eval E x = s.eval E x := fun m => eval_updO a1;have hev2 : ∀ m, ∀ x ∈ oi.op.operands, (⟨s.n, updO oj.dst rj s.tmps, m⟩ : ASt).eval E x = s.eval E x := fun m => eval_updO a3;have hwj : Wanted ops oj s gj := (wanted_updO a1).1 j1;have hcomm : updO oj.dst rj (updO oi.dst ri s.tmps) = updO oi.dst ri (updO oj.dst rj s.tmps) := (updO_comm a2 ri rj s.tmps).symm;have hm : mi = s.mem := i4 (.inr (.inr (.inr ⟨a, .inr (.inl rfl)⟩)));subst hm;dsimp only at j0 j2 j4 ⊢;refine ⟨⟨s.n, updO oj.dst rj s.tmps, mj⟩, AStep.ofParts j0 hwj (fun e => (j2 e).congr (hev _)) j3 (fun e => j4 (.inr (.inr (.inl e)))), ?_⟩;rw [hcomm];refine AStep.ofParts (s := ⟨s.n, updO oj.dst rj s.tmps, mj⟩) i0 ((wanted_updO a3).2 i1) (fun e => ?_) i3 (fun _ => rfl);obtain ⟨_, _, bk, hb, h⟩ := i2 e;refine ⟨rfl, rfl, bk, ?_, fun m hm => (h m hm).congr (fun x hx => (hev2 _ x hx).symm)⟩
 cases gj with
 | false => rw [show mj = s.mem from j4 (.inr (.inr (.inl rfl)))]; exact hb
 | true =>
  obtain ⟨_, blk, hmj, _⟩ := j2 rfl;show lookO mj a = some bk;rw [hmj, lookO_ne (Ne.symm hab)];exact hb
theorem AStep.swap_rk {ops : Array Oper} {oi oj : Oper} {i a : Nat} {s u t : ASt} (hia : i ≠ a) (hap : oi.apart ops oj = true) (gi : oi.guard = none) (gj : oj.guard = none) (hi : AStep E ops oi (.rn i a) s u) (hj : AStep E ops oj (.kn a) u t) :
  ∃ s2, AStep E ops oj (.kn a) s s2 ∧ AStep E ops oi (.rn i a) s2 t := by
 obtain ⟨a1, a2, a3⟩ := Oper.apart_spec hap;obtain ⟨i0, gbi, ri, mi, ki, iw, i1, _, rfl⟩ := hi;obtain ⟨j0, gbj, rj, mj, kj, jw, j1, _, rfl⟩ := hj;obtain rfl := wanted_none gi iw;obtain rfl := wanted_none gj jw;obtain ⟨rfl, rfl, ⟨b, hb, i2⟩, i3, i4⟩ := i1 rfl;obtain ⟨rfl, j2, j5⟩ := j1 rfl;have hj2 : EffW E oj s.mem (s.eval E) rj mj (some a) := j2.congr (eval_updO (E := E) (s := s) a1);refine ⟨⟨s.n, updO oj.dst rj (killT (some a) s.tmps), mj⟩, ⟨j0, true, rj, mj, some a, wanted_of_none gj, fun _ => ⟨rfl, hj2, j5⟩, (fun h => by cases h), rfl⟩, ⟨i0, true, ri, mj, none, wanted_of_none gi, fun _ => ?_, (fun h => by cases h), ?_⟩⟩
 ·have hev := eval_kill (E := E) (m := mj) (v := rj) (d := oj.dst) (ops := ops) (o := oi) (s := s) (i := a) a3 i3;exact ⟨rfl, rfl, ⟨b, (j5 i hia).fwd hb, fun m hm => (i2 m hm).congr (fun x hx => (hev x hx).symm)⟩, fun x hx => by rw [hev x hx]; exact i3 x hx, i4⟩
 ·show (⟨s.n, updO oj.dst rj (killT (some a) (updO oi.dst ri s.tmps)), mj⟩ : ASt) = ⟨s.n, updO oi.dst ri (updO oj.dst rj (killT (some a) s.tmps)), mj⟩;rw [killT_updO i4, updO_comm a2 ri rj]
theorem AStep.swap_kr {ops : Array Oper} {oi oj : Oper} {i a : Nat} {s u t : ASt} (hia : i ≠ a) (hap : oi.apart ops oj = true) (gi : oi.guard = none) (gj : oj.guard = none) (hi : AStep E ops oi (.kn a) s u) (hj : AStep E ops oj (.rn i a) u t) :
  ∃ s2, AStep E ops oj (.rn i a) s s2 ∧ AStep E ops oi (.kn a) s2 t := by
 obtain ⟨a1, a2, a3⟩ := Oper.apart_spec hap;obtain ⟨i0, gbi, ri, mi, ki, iw, i1, _, rfl⟩ := hi;obtain ⟨j0, gbj, rj, mj, kj, jw, j1, _, rfl⟩ := hj;obtain rfl := wanted_none gi iw;obtain rfl := wanted_none gj jw;obtain ⟨rfl, i2, i5⟩ := i1 rfl;obtain ⟨rfl, rfl, ⟨b, hb, j2⟩, j3, j4⟩ := j1 rfl;have hb : lookO mj i = some b ∧ b.tb = false := hb
 have hev : ∀ x ∈ oj.op.operands, (⟨s.n, updO oi.dst ri (killT (some a) s.tmps), mj⟩ : ASt).eval E x = s.eval E x := by
  intro x hx;have h1 := eval_updO (E := E) (s := ⟨s.n, killT (some a) s.tmps, mj⟩) (v := ri) (m := mj) a1 x hx;have h3 := j3 x hx;rw [show ((s.after (some a) mj).put oi.dst ri).eval E x = _ from h1] at h3;refine h1.trans ?_
  cases x with
  | tmp t => exact noname_killT h3
  | const v => rfl
  | func f => rfl
  | global g => rfl
 refine ⟨⟨s.n, updO oj.dst rj s.tmps, s.mem⟩, ⟨j0, true, rj, s.mem, none, wanted_of_none gj, fun _ => ⟨rfl, rfl, ⟨b, (i5 i hia).bwd hb, fun m hm => (j2 m hm).congr hev⟩, fun x hx => by rw [← hev x hx]; exact j3 x hx, j4⟩, (fun h => by cases h), rfl⟩,
  ⟨i0, true, ri, mj, some a, wanted_of_none gi, fun _ => ⟨rfl, i2.congr fun x hx => (eval_updO (E := E) (s := s) (v := rj) (m := s.mem) a3 x hx).symm, i5⟩, (fun h => by cases h), ?_⟩⟩
 show (⟨s.n, updO oj.dst rj (updO oi.dst ri (killT (some a) s.tmps)), mj⟩ : ASt) = ⟨s.n, updO oi.dst ri (killT (some a) (updO oj.dst rj s.tmps)), mj⟩;rw [killT_updO j4, updO_comm a2 ri rj]
theorem AStep.swap_still {ops : Array Oper} {oi oj : Oper} {ci cj : Cls} {s u t : ASt} (hap : oi.apart ops oj = true) (hci : ci = .p ∨ ∃ i, (ci = .pn i ∨ ∃ a, ci = .rn i a)) (hcj : cj = .p ∨ ∃ i, (cj = .pn i ∨ ∃ a, cj = .rn i a)) (hi : AStep E ops oi ci s u) (hj : AStep E ops oj cj u t) :
  ∃ s2, AStep E ops oj cj s s2 ∧ AStep E ops oi ci s2 t := by
 obtain ⟨a1, a2, a3⟩ := Oper.apart_spec hap
 have ni : ci ≠ .k ∧ ∀ i, ci ≠ .kn i := by rcases hci with rfl | ⟨i, rfl | ⟨a, rfl⟩⟩ <;> exact ⟨by simp, by simp⟩
 have nj : cj ≠ .k ∧ ∀ i, cj ≠ .kn i := by rcases hcj with rfl | ⟨i, rfl | ⟨a, rfl⟩⟩ <;> exact ⟨by simp, by simp⟩
 have gi : ci = .p ∨ ci = .r ∨ False ∨ ∃ i, (ci = .pn i ∨ ci = .rq i ∨ ∃ a, ci = .rn i a) := by rcases hci with h | ⟨i, h | h⟩; exact .inl h; exact .inr (.inr (.inr ⟨i, .inl h⟩)); exact .inr (.inr (.inr ⟨i, .inr (.inr h)⟩))
 have gj : cj = .p ∨ cj = .r ∨ False ∨ ∃ i, (cj = .pn i ∨ cj = .rq i ∨ ∃ a, cj = .rn i a) := by rcases hcj with h | ⟨i, h | h⟩; exact .inl h; exact .inr (.inr (.inr ⟨i, .inl h⟩)); exact .inr (.inr (.inr ⟨i, .inr (.inr h)⟩))
 obtain ⟨i0, gbi, ri, mi, i1, i2, i3, i4, rfl⟩ := hi.parts ni;obtain ⟨j0, gbj, rj, mj, j1, j2, j3, j4, rfl⟩ := hj.parts nj;have hm : mi = s.mem := i4 (gi.imp id (Or.imp id (Or.imp False.elim id)));subst hm;have hm : mj = s.mem := j4 (gj.imp id (Or.imp id (Or.imp False.elim id)));subst hm;have hev : ∀ m, ∀ x ∈ oj.op.operands, (⟨s.n, updO oi.dst ri s.tmps, m⟩ : ASt).eval E x = s.eval E x := fun m => eval_updO a1;have hev2 : ∀ m, ∀ x ∈ oi.op.operands, (⟨s.n, updO oj.dst rj s.tmps, m⟩ : ASt).eval E x = s.eval E x := fun m => eval_updO a3;have hwj : Wanted ops oj s gbj := (wanted_updO a1).1 j1;have hcomm : updO oj.dst rj (updO oi.dst ri s.tmps) = updO oi.dst ri (updO oj.dst rj s.tmps) := (updO_comm a2 ri rj s.tmps).symm;dsimp only at j0 j2 ⊢;refine ⟨⟨s.n, updO oj.dst rj s.tmps, s.mem⟩, AStep.ofParts j0 hwj (fun e => (j2 e).congr (hev _)) j3 (fun _ => rfl), ?_⟩;rw [hcomm];exact AStep.ofParts (s := ⟨s.n, updO oj.dst rj s.tmps, s.mem⟩) i0 ((wanted_updO a3).2 i1) (fun e => (i2 e).congr (fun x hx => (hev2 _ x hx).symm)) i3 (fun _ => rfl)
def gdC (oi oj : Oper) (ci cj : Cls) : Bool := match ci, cj with
 | .pn _, .kn _ | .kn _, .pn _ | .rn _ _, .kn _ | .kn _, .rn _ _ => oi.guard.isNone && oj.guard.isNone
 | _, _ => true
theorem AStep.swap_rn {ops : Array Oper} {oi oj : Oper} {ci cj : Cls} {s u t : ASt} (hap : oi.apart ops oj = true) (h1 : Cls.ok ci cj = true) (h2 : gdC oi oj ci cj = true) (hrn : (∃ i a, ci = .rn i a) ∨ ∃ i a, cj = .rn i a) (hi : AStep E ops oi ci s u) (hj : AStep E ops oj cj u t) :
  ∃ s2, AStep E ops oj cj s s2 ∧ AStep E ops oi ci s2 t := by
 rcases hrn with ⟨i, a, rfl⟩ | ⟨i, a, rfl⟩
 ·cases cj with
  | p => exact AStep.swap_still hap (.inr ⟨i, .inr ⟨a, rfl⟩⟩) (.inl rfl) hi hj
  | pn k => exact AStep.swap_still hap (.inr ⟨i, .inr ⟨a, rfl⟩⟩) (.inr ⟨k, .inl rfl⟩) hi hj
  | rn k b => exact AStep.swap_still hap (.inr ⟨i, .inr ⟨a, rfl⟩⟩) (.inr ⟨k, .inr ⟨b, rfl⟩⟩) hi hj
  | kn k =>
   simp only [Cls.ok, Bool.and_eq_true, Bool.not_eq_true'] at h1;have hak : a = k := Nat.eq_of_beq_eq_true h1.1;subst hak
   have hia : i ≠ a := fun e => by subst e; rw [Nat.beq_refl] at h1; cases h1.2
   simp only [gdC, Bool.and_eq_true, Option.isNone_iff_eq_none] at h2;exact AStep.swap_rk hia hap h2.1 h2.2 hi hj
  | _ => simp [Cls.ok] at h1
 ·cases ci with
  | p => exact AStep.swap_still hap (.inl rfl) (.inr ⟨i, .inr ⟨a, rfl⟩⟩) hi hj
  | pn k => exact AStep.swap_still hap (.inr ⟨k, .inl rfl⟩) (.inr ⟨i, .inr ⟨a, rfl⟩⟩) hi hj
  | rn k b => exact AStep.swap_still hap (.inr ⟨k, .inr ⟨b, rfl⟩⟩) (.inr ⟨i, .inr ⟨a, rfl⟩⟩) hi hj
  | kn k =>
   simp only [Cls.ok, Bool.and_eq_true, Bool.not_eq_true'] at h1;have hak : a = k := Nat.eq_of_beq_eq_true h1.1;subst hak
   have hia : i ≠ a := fun e => by subst e; rw [Nat.beq_refl] at h1; cases h1.2
   simp only [gdC, Bool.and_eq_true, Option.isNone_iff_eq_none] at h2;exact AStep.swap_kr hia hap h2.1 h2.2 hi hj
  | _ => simp [Cls.ok] at h1
def okC (oi oj : Oper) (ci cj : Cls) : Bool := Cls.ok ci cj && gdC oi oj ci cj
theorem AStep.swap {ops : Array Oper} {oi oj : Oper} {ci cj : Cls} {s u t : ASt} (hap : oi.apart ops oj = true) (hok : okC oi oj ci cj = true) (hi : AStep E ops oi ci s u) (hj : AStep E ops oj cj u t) :
  ∃ s2, AStep E ops oj cj s s2 ∧ AStep E ops oi ci s2 t := by
 simp only [okC, Bool.and_eq_true] at hok;obtain ⟨h1, h2⟩ := hok
 by_cases hrn : (∃ i a, ci = .rn i a) ∨ ∃ i a, cj = .rn i a
 ·exact AStep.swap_rn hap h1 h2 hrn hi hj
 by_cases hki : ∃ a, ci = .kn a
 ·obtain ⟨a, rfl⟩ := hki
  cases cj with
  | pn b =>
   have hab : a = b := Nat.eq_of_beq_eq_true h1;subst hab;simp only [gdC, Bool.and_eq_true, Option.isNone_iff_eq_none] at h2;exact AStep.swap_kp hap h2.1 h2.2 hi hj
  | rn i b => exact absurd (.inr ⟨i, b, rfl⟩) hrn
  | _ => simp [Cls.ok] at h1
 ·by_cases hkj : ∃ a, cj = .kn a
  ·obtain ⟨a, rfl⟩ := hkj
   cases ci with
   | pn b =>
    have hab : b = a := Nat.eq_of_beq_eq_true h1;subst hab;simp only [gdC, Bool.and_eq_true, Option.isNone_iff_eq_none] at h2;exact AStep.swap_pk hap h2.1 h2.2 hi hj
   | kn b => exact absurd ⟨b, rfl⟩ hki
   | rn i b => exact absurd (.inl ⟨i, b, rfl⟩) hrn
   | _ => simp [Cls.ok] at h1
  ·by_cases hra : ∃ a b, ci = .rq a ∧ cj = .al b
   ·obtain ⟨a, b, rfl, rfl⟩ := hra;exact AStep.swap_ra (fun e => by subst e; simp [Cls.ok] at h1) hap hi hj
   ·by_cases har : ∃ a b, ci = .al a ∧ cj = .rq b
    ·obtain ⟨a, b, rfl, rfl⟩ := har;exact AStep.swap_ar (fun e => by subst e; simp [Cls.ok] at h1) hap hi hj
    ·by_cases hww : ∃ a b, ci = .wq a ∧ cj = .wq b
     ·obtain ⟨a, b, rfl, rfl⟩ := hww;exact AStep.swap_ww (fun e => by subst e; simp [Cls.ok] at h1) hap hi hj
     ·by_cases hwr : ∃ a b, ci = .wq a ∧ cj = .rq b
      ·obtain ⟨a, b, rfl, rfl⟩ := hwr;exact AStep.swap_wr (fun e => by subst e; simp [Cls.ok] at h1) hap hi hj
      ·by_cases hrw : ∃ a b, ci = .rq a ∧ cj = .wq b
       ·obtain ⟨a, b, rfl, rfl⟩ := hrw;exact AStep.swap_rw (fun e => by subst e; simp [Cls.ok] at h1) hap hi hj
       ·exact AStep.swap1 hap h1 (fun a h => hki ⟨a, h⟩) (fun a h => hkj ⟨a, h⟩) (fun a b h k => hra ⟨a, b, h, k⟩) (fun a b h k => har ⟨a, b, h, k⟩) (fun a b h => ⟨fun k => hww ⟨a, b, h, k⟩, fun k => hwr ⟨a, b, h, k⟩⟩) (fun a b h k => hrw ⟨a, b, h, k⟩) (fun i a h => hrn (.inl ⟨i, a, h⟩)) (fun i a h => hrn (.inr ⟨i, a, h⟩)) hi hj
variable {ops : Array Oper} {md : Region.Mode} {cl : Nat → Cls}
def aOp (E : Env) (ops : Array Oper) (cl : Nat → Cls) (i : Nat) (K : ASt → Prop) (s : ASt) : Prop :=
 match ops[i]? with
 | none => K s
 | some o => ∃ s', AStep E ops o (cl i) s s' ∧ K s'
def anyA (E : Env) (md : Region.Mode) (ops : Array Oper) (cl : Nat → Cls) (K : ASt → Prop) : Nat → Array Bool → ASt → Prop
 | 0, listed, s => Region.ready md ops listed = [] ∧ K s
 | fuel + 1, listed, s => (Region.ready md ops listed = [] → K s) ∧ ∀ i ∈ Region.ready md ops listed, aOp E ops cl i (anyA E md ops cl K fuel (listed.setIfInBounds i true)) s
theorem aOp.mono {i : Nat} {K K' : ASt → Prop} {s : ASt} (h : ∀ s, K s → K' s) (hh : aOp E ops cl i K s) : aOp E ops cl i K' s := by
 unfold aOp at *
 split
 ·rename_i ho; simp only [ho] at hh; exact h _ hh
 ·rename_i o ho; simp only [ho] at hh; obtain ⟨s', h1, h2⟩ := hh; exact ⟨s', h1, h _ h2⟩
theorem anyA.sound {Q : Exit → ASt → Prop} : ∀ (fuel : Nat) (listed : Array Bool) (s : ASt), anyA E md ops cl (Q .normal) fuel listed s → ∀ a w, ARel E w0 M0 s a w →
  wpAnyIn E.F 0 E.P md ops (fun e a' w' => ∃ s', ARel E w0 M0 s' a' w' ∧ Q e s') fuel listed a w
 | 0, _, s, h, a, w, ha => ⟨h.1, s, ha, h.2⟩
 | fuel + 1, _, s, h, a, w, ha => by
  refine ⟨fun h0 => ⟨s, ha, h.1 h0⟩, fun i hi => ?_⟩;have h1 := h.2 i hi;unfold aOp at h1;unfold wpOpIn
  split
  ·rename_i ho; simp only [ho] at h1; exact anyA.sound fuel _ s h1 a w ha
  ·rename_i o ho
   simp only [ho] at h1;obtain ⟨s', h2, h3⟩ := h1;exact h2.sound ha fun a' w' ha' => anyA.sound fuel _ s' h3 a' w' ha'
theorem anyA_first {K : ASt → Prop} {i : Nat} {oi : Oper} (hi : ops[i]? = some oi) : ∀ (fuel : Nat) (listed : Array Bool) (s u : ASt),
  (∀ j oj, ops[j]? = some oj → j ≠ i → listed.getD j true = false → (∀ e ∈ oj.after, Region.binds md e = true → e.on ≠ i) → oi.apart ops oj = true ∧ okC oi oj (cl i) (cl j) = true) →
  i ∈ Region.ready md ops listed → AStep E ops oi (cl i) s u → anyA E md ops cl K fuel (listed.setIfInBounds i true) u → anyA E md ops cl K (fuel + 1) listed s := by
 intro fuel
 induction fuel with
 | zero =>
  intro listed s u _ hr hy H;refine ⟨fun h => (by rw [h] at hr; cases hr), fun j hj => ?_⟩
  by_cases hji : j = i
  ·subst hji; unfold aOp; simp only [hi]; exact ⟨u, hy, H⟩
  ·have := ready_mono hj hji;rw [H.1] at this
   cases this
 | succ fuel ih =>
  intro listed s u hfree hr hy H;refine ⟨fun h => (by rw [h] at hr; cases hr), fun j hj => ?_⟩
  by_cases hji : j = i
  ·subst hji; unfold aOp; simp only [hi]; exact ⟨u, hy, H⟩
  ·have h1 := H.2 j (ready_mono hj hji);obtain ⟨hjun, oj, hoj, hall⟩ := mem_ready.1 hj
   have hnot : ∀ e ∈ oj.after, Region.binds md e = true → e.on ≠ i := fun e he hb heq => by
    have h1 := hall e he hb;have h0 := (mem_ready.1 hr).1;rw [heq] at h1
    rcases Nat.lt_or_ge i listed.size with h' | h'
    ·simp [h'] at h0 h1; rw [h0] at h1; cases h1
    ·simp [Array.getElem?_eq_none h'] at h1
   unfold aOp at h1 ⊢;simp only [hoj] at h1 ⊢;obtain ⟨t, h2, h3⟩ := h1;obtain ⟨hap, hok⟩ := hfree j oj hoj hji hjun hnot;obtain ⟨s2, h4, h5⟩ := AStep.swap hap hok hy h2;refine ⟨s2, h4, ih (listed.setIfInBounds j true) s2 t (fun k ok hk hki hun hno => ?_) (ready_mono hr (Ne.symm hji)) h5 ?_⟩
   ·refine hfree k ok hk hki ?_ hno
    by_cases hjk : j = k
    ·subst hjk; exact hjun
    ·rw [getD_set_ne true hjk] at hun; exact hun
   ·rw [Array.setIfInBounds_comm _ _ hji];exact h3
def freeC (md : Region.Mode) (ops : Array Oper) (cl : Nat → Cls) (listed : Array Bool) (i : Nat) : Bool :=
 match ops[i]? with
 | none => false
 | some oi => (List.range ops.size).all fun j => j == i || listed.getD j true || match ops[j]? with
   | some oj => oj.after.any (fun e => Region.binds md e && e.on == i) || (oi.apart ops oj && okC oi oj (cl i) (cl j))
   | none => true
theorem freeC_spec {i : Nat} {oi : Oper} {listed : Array Bool} (hi : ops[i]? = some oi) (h : freeC md ops cl listed i = true) (j : Nat) (oj : Oper)
  (hj : ops[j]? = some oj) (hne : j ≠ i) (hun : listed.getD j true = false) (hno : ∀ e ∈ oj.after, Region.binds md e = true → e.on ≠ i) :
  oi.apart ops oj = true ∧ okC oi oj (cl i) (cl j) = true := by
 simp only [freeC, hi, List.all_eq_true, List.mem_range] at h;have h1 := h j (Array.getElem?_eq_some_iff.1 hj).1;simp only [hj, Bool.or_eq_true, beq_iff_eq, hne, false_or, hun, Bool.false_eq_true, Bool.and_eq_true] at h1
 rcases h1 with h1 | h1
 ·obtain ⟨e, he, hb⟩ := Array.any_eq_true'.1 h1;simp only [Bool.and_eq_true, beq_iff_eq] at hb;exact absurd hb.2 (hno e he hb.1)
 ·exact h1
def lexC (md : Region.Mode) (ops : Array Oper) (cl : Nat → Cls) : Nat → Nat → Array Bool → Bool
 | 0, _, listed => (Region.ready md ops listed).isEmpty
 | fuel + 1, k, listed => (Region.ready md ops listed).contains k && freeC md ops cl listed k && lexC md ops cl fuel (k + 1) (listed.setIfInBounds k true)
theorem anyA_lex {K : ASt → Prop} : ∀ (l : List Oper) (cs : List Cls) (k : Nat) (listed : Array Bool) (s : ASt), (∀ j, l[j]? = ops[k + j]?) → (∀ j c, cs[j]? = some c → cl (k + j) = c) →
  lexC md ops cl l.length k listed = true → AOps E ops l cs s K → anyA E md ops cl K l.length listed s
 | [], [], _, _, _, _, _, hB, h => ⟨by simpa [lexC] using hB, h⟩
 | o :: l, c :: cs, k, listed, s, hl, hc, hB, h => by
  have h0 : ops[k]? = some o := by simpa using (hl 0).symm
  have hc0 : cl k = c := by simpa using hc 0 c (by simp)
  simp only [List.length_cons, lexC, Bool.and_eq_true] at hB;obtain ⟨⟨hr, hf⟩, hB'⟩ := hB;obtain ⟨s', h1, h2⟩ := h;subst hc0;exact anyA_first h0 l.length listed s s' (freeC_spec h0 hf) (by simpa using hr) h1
   (anyA_lex l cs (k + 1) _ _ (fun j => by have := hl (j + 1); simpa [Nat.add_assoc, Nat.add_comm 1 j] using this)
    (fun j c hj => by have := hc (j + 1) c (by simpa using hj); simpa [Nat.add_assoc, Nat.add_comm 1 j] using this) hB' h2)
 | [], _ :: _, _, _, _, _, _, _, h => h.elim
 | _ :: _, [], _, _, _, _, _, _, h => h.elim
theorem ARel.draw {s : ASt} {a : Act} {w : World} (h : ARel E w0 M0 s a w) : ARel E w0 M0 s a { w with drawn := w.drawn + 1 } := by
 obtain ⟨ρ, hm, hmk, ht⟩ := h.ex;have hg : Grow w { w with drawn := w.drawn + 1 } := ⟨rfl, rfl, rfl, Nat.le_refl _, fun _ _ => rfl⟩;exact ⟨h.defers, h.size, ρ, hm.grow hg, hmk.mono hg.hh (fun _ _ h => h), fun i => (ht i).grow hg⟩
def lexOk (ops : Array Oper) (cs : List Cls) : Bool := lexC .any ops (fun i => cs.getD i .k) ops.size 0 (Array.replicate ops.size false)
theorem aw_draw {id : Nat} {ops : Array Oper} {Q : Exit → ASt → Prop} {s : ASt} (cs : List Cls) (hB : lexOk ops cs = true) (h : AOps E ops ops.toList cs s (Q .normal)) : AWp E w0 M0 (.region id ops true) Q s := by
 intro a w ha;refine wpIn_region_any E.orders ?_;have h1 := anyA_lex (md := .any) (cl := fun i => cs.getD i .k) ops.toList cs 0 (Array.replicate ops.size false) s (by simp) (fun j c hj => by simp [hj]) (by simpa [lexOk] using hB) h;have h2 := anyA.sound (w0 := w0) (M0 := M0) (Q := Q) _ _ s h1 a _ ha.draw
 simpa using h2
end
section
variable {E : Env} {w0 : World} {M0 : Nat → Prop}
def Con (E : Env) (f : FuncId) (args : List G) (r : G) : Prop :=
 ∀ w M (vs : List Value), (∀ b, M b → b < w.heap.size) → GlOk E w M → FitsT w M args vs → Calls E.P f vs.toArray w fun e w' => ∃ v, e = .returned v ∧ Grow w w' ∧ r.p w' M v
theorem MRel.lt {ρ : Rho} {mem : Mem} {w : World} (hm : MRel E w0 M0 ρ mem w) : ∀ b, owned M0 ρ b → b < w.heap.size := by
 rintro b (h | ⟨id, o, h, rfl⟩)
 ·exact Nat.lt_of_lt_of_le (hm.m0 b h) hm.below.size
 ·exact (hm.fresh id o h).2
def initT : List G → Nat → TV
 | [], _ => .g (.lit undef)
 | x :: _, 0 => .g x
 | _ :: xs, i + 1 => initT xs i
theorem initT_rel {w : World} {M : Nat → Prop} {ρ : Rho} : ∀ {xs : List G} {vs : List Value} (m : Nat), FitsT w M xs vs → ∀ i, TRel w M ρ (initT xs i) ((vs ++ List.replicate m undef)[i]?.getD undef)
 | [], [], m, _, i => by
  show _ = _;simp only [List.nil_append, List.getElem?_replicate]
  split <;> rfl
 | x :: xs, v :: vs, m, h, 0 => by exact h.1
 | x :: xs, v :: vs, m, h, i + 1 => by
  have := initT_rel (ρ := ρ) m h.2 i
  simpa [initT] using this
 | [], _ :: _, _, h, _ => h.elim
 | _ :: _, [], _, h, _ => h.elim
theorem FitsT.length {w : World} {M : Nat → Prop} : ∀ {xs : List G} {vs : List Value}, FitsT w M xs vs → vs.length = xs.length
 | [], [], _ => rfl
 | _ :: _, _ :: _, h => by simp [FitsT.length h.2]
 | [], _ :: _, h => h.elim
 | _ :: _, [], h => h.elim
def rvSem (tmps : Array Value) : ResultVar → Sem Value
 | .tmp t => pure (tmps.getD t undef)
 | .cell a t => do loadVar t (← asAddr (tmps.getD a undef))
theorem results_eq (fn : Func) (tmps : Array Value) : results fn tmps = (do let vs ← fn.results.mapM (rvSem tmps); pure (if h : vs.size = 1 then vs[0] else .tuple vs)) := by
 unfold results
 congr 1
def CellsAs (w w' : World) : Prop := ∀ a v, w.cell? a = some v → w'.cell? a = some v
def RVal (E : Env) (s : ASt) (rv : ResultVar) (x : G) : Prop :=
 ∀ w0 M0 ρ w (tmps : Array Value), MRel E w0 M0 ρ s.mem w → (∀ i, TRel w (owned M0 ρ) ρ (s.get i) (tmps.getD i undef)) → ∃ v, (rvSem tmps rv).run E.P w = .ok v w ∧ x.p w (fun b => M0 b ∨ E.lentK b) v ∧ ∀ w', CellsAs w w' → (rvSem tmps rv).run E.P w' = .ok v w'
def RVals (E : Env) (s : ASt) : List ResultVar → List G → Prop
 | [], [] => True
 | rv :: rvs, x :: xs => RVal E s rv x ∧ RVals E s rvs xs
 | _, _ => False
theorem RVals.run {s : ASt} : ∀ {rvs : List ResultVar} {xs : List G}, RVals E s rvs xs → ∀ w0 M0 ρ w (tmps : Array Value), MRel E w0 M0 ρ s.mem w → (∀ i, TRel w (owned M0 ρ) ρ (s.get i) (tmps.getD i undef)) →
  ∃ vs : List Value, (rvs.mapM (rvSem tmps)).run E.P w = .ok vs w ∧ FitsT w (fun b => M0 b ∨ E.lentK b) xs vs ∧ ∀ w', CellsAs w w' → (rvs.mapM (rvSem tmps)).run E.P w' = .ok vs w'
 | [], [], _, _, _, _, _, _, _, _ => ⟨[], by simp, trivial, fun _ _ => by simp⟩
 | rv :: rvs, x :: xs, h, w0, M0, ρ, w, tmps, hm, ht => by
  obtain ⟨v, h1, h2, h5⟩ := h.1 w0 M0 ρ w tmps hm ht;obtain ⟨vs, h3, h4, h6⟩ := RVals.run h.2 w0 M0 ρ w tmps hm ht;exact ⟨v :: vs, by simp [List.mapM_cons, h1, h3], ⟨h2, h4⟩, fun w' hw => by simp [List.mapM_cons, h5 w' hw, h6 w' hw]⟩
 | [], _ :: _, h, _, _, _, _, _, _, _ => h.elim
 | _ :: _, [], h, _, _, _, _, _, _, _ => h.elim
def ResOk (E : Env) (fn : Func) (s : ASt) (r : G) : Prop := ∃ xs, RVals E s fn.results.toList xs ∧ ((∃ x, xs = [x] ∧ r = x) ∨ (xs.length ≠ 1 ∧ r = .tup xs))
theorem ResOk.run {fn : Func} {s : ASt} {r : G} (h : ResOk E fn s r) (ρ : Rho) (w : World) (tmps : Array Value) (hm : MRel E w0 M0 ρ s.mem w)
  (ht : ∀ i, TRel w (owned M0 ρ) ρ (s.get i) (tmps.getD i undef)) : ∃ v, (results fn tmps).run E.P w = .ok v w ∧ r.p w (fun b => M0 b ∨ E.lentK b) v ∧ ∀ w', CellsAs w w' → (results fn tmps).run E.P w' = .ok v w' := by
 obtain ⟨xs, h1, h2⟩ := h;obtain ⟨vs, h3, h4, h6⟩ := h1.run w0 M0 ρ w tmps hm ht;have hlen := h4.length
 have hr : ∀ w', (fn.results.toList.mapM (rvSem tmps)).run E.P w' = .ok vs w' → (results fn tmps).run E.P w' = .ok (if h : vs.toArray.size = 1 then vs.toArray[0] else .tuple vs.toArray) w' := fun w' h => by
  rw [results_eq, Array.mapM_eq_mapM_toList];simp only [Sem.run_bind, Sem.run_map, h, Result.andThen_ok, Sem.run_pure]
 rcases h2 with ⟨x, rfl, rfl⟩ | ⟨h5, rfl⟩
 ·match vs, h4, hlen, h3, h6, hr with
  | [v], h4, _, h3, h6, hr => exact ⟨v, by rw [hr w h3]; rfl, h4.1, fun w' hw => by rw [hr w' (h6 w' hw)]; rfl⟩
 ·have hd : (if h : vs.toArray.size = 1 then vs.toArray[0] else .tuple vs.toArray) = .tuple vs.toArray := by
   rw [dif_neg]; simpa [hlen] using h5
  rw [hd] at hr;exact ⟨.tuple vs.toArray, hr w h3, ⟨vs, rfl, h4⟩, fun w' hw => hr w' (h6 w' hw)⟩
def Done (E : Env) (fn : Func) (r : G) : Exit → ASt → Prop
 | .ret, s | .normal, s => ResOk E fn s r
 | _, _ => False
theorem wp_env {E : Env} {c : Code} {Q : Exit → Act → World → Prop} {a : Act} {w : World} (h : c.wpIn E.F 0 E.P Q a w) (hr : E.rnd = none) : c.wp E.P Q a w := by
 obtain ⟨P, gl, ord, bow, rnd, mk⟩ := E
 cases hr
 exact wpIn_wide.1 h
theorem con_of_aw {f : FuncId} {fn : Func} {c : Code} {args : List G} {r : G} (hf : E.P.funcs[f]? = some fn) (hb : fn.body = some c) (hn0 : Nat.ble args.length fn.ntmps = true)
  (h : ∀ w0 M0, AWp E w0 M0 c (Done E fn r) ⟨fn.ntmps, initT args, []⟩) (hbw : E.bow = [] := by rfl) (hrn : E.rnd = none := by rfl) (hdf : E.mks = false := by rfl) (hnb : E.nb = 0 := by rfl) : Con E f args r := by
 intro w M vs hM hgl hv;have hn := Nat.le_of_ble_eq_true hn0;have hlen := hv.length;refine calls_of_wp hf hb ?_
 have ha : ARel E w M ⟨fn.ntmps, initT args, []⟩ { tmps := vs.toArray ++ Array.replicate (fn.ntmps - vs.toArray.size) undef, defers := [] } w := by
  refine ⟨fun _ => rfl, ?_, fun _ => none, ?_, Marks.nil, ?_⟩
  ·simp; omega
  ·refine ⟨BelowX.refl _ w, hM, ?_, ?_, ?_, ?_, (fun id x h => by rw [hbw] at h; cases h), ⟨(fun b h => absurd h (lentK_nil hbw)), Nat.le_trans (Nat.le_of_eq hnb) (Nat.zero_le _)⟩, ?_⟩
   ·intro g vs hg;have := hgl g vs hg
    have hiff : ∀ b, owned M (fun _ => none) b → M b := by rintro b (h | ⟨_, _, h, _⟩); exact h; cases h
    exact ⟨⟨fun h => this.1.1 (hiff _ h), this.1.2⟩, this.2.mono (fun _ _ _ => rfl) (fun b _ h => hiff b h) this.1.1⟩
   ·intro _ _ h; cases h
   ·intro _ _ h; cases h
   ·intro _ _ _ _ h; cases h
   ·intro _ _ h; cases h
  ·intro i;have hv' : FitsT w (owned M (fun _ => none)) args vs := hv.mono (fun _ _ _ => rfl) (by rintro b _ (h | ⟨_, _, h, _⟩); exact h; cases h);have := initT_rel (ρ := fun _ => none) (fn.ntmps - vs.length) hv' i;show TRel _ _ _ (initT args i) _;rw [Array.getD_eq_getD_getElem?];rw [show (vs.toArray ++ Array.replicate (fn.ntmps - vs.toArray.size) undef) = (vs ++ List.replicate (fn.ntmps - vs.length) undef).toArray by simp];rw [List.getElem?_toArray];exact this
 refine wp_mono (wp_env (h w M _ w ha) hrn) ?_;rintro e a' w' ⟨s', ha', hq⟩
 have fin : ResOk E fn s' r → a'.defers = [] ∧ ∃ v, (results fn a'.tmps).run E.P w' = .ok v w' ∧ (∃ u, Ending.returned v = .returned u ∧ Grow w w' ∧ r.p w' M u) := by
  intro hq;obtain ⟨ρ, hm, _, ht⟩ := ha'.ex;obtain ⟨v, h1, h2, _⟩ := hq.run ρ w' a'.tmps hm ht;exact ⟨ha'.defers hdf, v, h1, v, rfl, hm.below.grow (fun _ => lent_nil hbw), r.mono h2 (fun _ _ _ => rfl) (fun _ _ h => .inl h)⟩
 cases e with
 | ret => exact fin hq
 | normal => exact fin hq
 | _ => exact hq.elim
theorem rv_g {s : ASt} {t : Nat} {x : G} (h : s.get t = .g x) : RVal E s (.tmp t) x := by
 intro w0 M0 ρ w tmps hm ht;have := ht t;rw [h] at this;refine ⟨tmps.getD t undef, rfl, x.mono this (fun _ _ _ => rfl) (fun b _ hb => ?_), fun _ _ => rfl⟩
 rcases hb with hb | ⟨id, ow, hb, rfl⟩
 ·exact .inl hb
 ·exact .inr ⟨id, ow, hm.keep id _ hb, rfl⟩
theorem res2 {fn : Func} {s : ASt} {t u : Nat} {x y : G} (hr : fn.results = #[.tmp t, .tmp u]) (h : s.get t = .g x) (k : s.get u = .g y) : ResOk E fn s (.tup [x, y]) :=
 ⟨[x, y], by rw [hr]; exact ⟨rv_g h, rv_g k, trivial⟩, .inr ⟨by simp, rfl⟩⟩
theorem resN {fn : Func} {s : ASt} {rvs : List ResultVar} {xs : List G} (hr : fn.results = rvs.toArray) (h : RVals E s rvs xs) (hn : xs.length ≠ 1) : ResOk E fn s (.tup xs) :=
 ⟨xs, by rw [hr]; exact h, .inr ⟨hn, rfl⟩⟩
theorem run_callFunc {P : Program} {f : FuncId} {fn : Func} (hf : P.funcs[f]? = some fn) (hb : fn.body.isSome = true) (hn : (fn.name == "runtime.NumGoroutine") = false) (args : Array Value) (w : World) :
  (callFunc f args).run P w = .ok (.enter f args) w := by
 have hb' : fn.body.isNone = false := by cases h : fn.body <;> simp_all
 simp only [callFunc, Sem.run_bind, run_program, Result.andThen_ok, hf, hn, hb', Bool.false_eq_true, if_false, Sem.run_pure]
def Known (P : Program) (f : FuncId) : Prop := ∃ fn, P.funcs[f]? = some fn ∧ fn.body.isSome = true ∧ (fn.name == "runtime.NumGoroutine") = false
theorem fits_of_ev {w : World} {M : Nat → Prop} {ρ : Rho} {ev : Operand → TV} {e : Operand → Value} : ∀ {as : List Operand} {args : List G}, (∀ x ∈ as, TRel w M ρ (ev x) (e x)) →
  as.map ev = args.map TV.g → FitsT w M args (as.map e)
 | [], [], _, _ => trivial
 | x :: as, y :: args, h, he => by
  simp only [List.map_cons, List.cons.injEq] at he;refine ⟨?_, fits_of_ev (fun z hz => h z (List.mem_cons_of_mem _ hz)) he.2⟩;have := h x List.mem_cons_self;rw [he.1] at this;exact this
 | [], _ :: _, _, he => by simp at he
 | _ :: _, [], _, he => by simp at he
theorem upon_call {f : FuncId} {args : List G} {r : G} {vs : List Value} {ρ : Rho} {mem : Mem} {w : World} {res : Result Next} (hc : Con E f args r) (hm : MRel E w0 M0 ρ mem w) (hv : FitsT w (owned M0 ρ) args vs)
  (hres : res = .ok (.enter f vs.toArray) w) : Upon0 E w (owned M0 ρ) ρ (.g r) res := by
 subst hres;refine (hc w (owned M0 ρ) vs hm.lt hm.glob hv).mono ?_;rintro e w' ⟨v, rfl, h1, h2⟩;exact ⟨v, rfl, h1, h2⟩
theorem eff_call {o : Oper} {ev : Operand → TV} {f : FuncId} {as : Array Operand} {ts : Array TypeId} {args : List G} {r : G} (ho : o.op = .call ⟨.value (.func f), as, ts⟩)
  (hk : Known E.P f) (hev : ev (.func f) = .g (.lit (.func (.func f) #[] #[]))) (hc : Con E f args r) (ha : as.toList.map ev = args.map TV.g) (mem : Mem) : Eff E o mem ev (.g r) := by
 intro w0 M0 ρ w e hm hx;obtain ⟨fn, h1, h2, h3⟩ := hk
 have hef : e (.func f) = .func (.func f) #[] #[] := by
  have := hx (.func f) (by rw [ho]; simp [Op.operands, Call.operands]);rw [hev] at this;exact this
 have hv : FitsT w (owned M0 ρ) args (as.toList.map e) := fits_of_ev (fun x hx' => hx x (by rw [ho]; simp [Op.operands, Call.operands]; exact .inr (by simpa using hx'))) ha;refine upon_call hc hm hv ?_
 simp [execOp, ho, resolve, hef, Deferred.ofValue, invoke, run_callFunc h1 h2 h3, ← Array.toList_map]
end
section
variable {E : Env} {w0 : World} {M0 : Nat → Prop}
theorem eff_pure {o : Oper} {ev : Operand → TV} {r : TV} (h : ∀ w M ρ (e : Operand → Value), (∀ b, M b → b < w.heap.size) → (∀ x ∈ o.op.operands, TRel w M ρ (ev x) (e x)) →
  ∃ v w', (execOp e o).run E.P w = .ok (.value v) w' ∧ Grow w w' ∧ TRel w' M ρ r v) (mem : Mem) : Eff E o mem ev r := by
 intro w0 M0 ρ w e hm hx;obtain ⟨v, w', h1, h2, h3⟩ := h w _ ρ e hm.lt hx;rw [h1];exact ⟨h2, h3⟩
theorem eff_same {o : Oper} {ev : Operand → TV} {r : TV} (h : ∀ w M ρ (e : Operand → Value), (∀ x ∈ o.op.operands, TRel w M ρ (ev x) (e x)) →
  ∃ v, (execOp e o).run E.P w = .ok (.value v) w ∧ TRel w M ρ r v) (mem : Mem) : Eff E o mem ev r :=
 eff_pure (fun w M ρ e _ hx => let ⟨v, h1, h2⟩ := h w M ρ e hx; ⟨v, w, h1, Grow.refl w, h2⟩) mem
def isAggD : TypeDesc → Bool
 | .struct _ | .array _ _ => true
 | _ => false
def tyK (P : Program) (t : TypeId) : Option (Nat × Bool) := match P.info? t, P.underlying t with
 | some i, some d => some (i.size, isAggD d)
 | _, _ => none
theorem run_sizeOf {P : Program} {t : TypeId} {k : Nat} {b : Bool} (h : tyK P t = some (k, b)) (w : World) : (sizeOf t).run P w = .ok k w := by
 unfold tyK at h
 cases hi : P.info? t with
 | none => simp [hi] at h
 | some i =>
  cases hd : P.underlying t with
  | none => simp [hi, hd] at h
  | some d =>
   simp [hi, hd] at h
   simp [sizeOf, typeInfo, hi, h.1]
theorem run_isAgg {P : Program} {t : TypeId} {k : Nat} {b : Bool} (h : tyK P t = some (k, b)) (w : World) : (isAgg t).run P w = .ok b w := by
 unfold tyK at h
 cases hi : P.info? t with
 | none => simp [hi] at h
 | some i =>
  cases hd : P.underlying t with
  | none => simp [hi, hd] at h
  | some d =>
   simp [hi, hd] at h
   obtain ⟨h1, h2⟩ := h;subst h2
   cases d <;> simp [isAgg, underlying, hd, isAggD]
class One (x : G) : Prop where
 one : ∀ {w M v}, x.p w M v → v.oneCell' = true
instance (k : IntKind) (n : Int) : One (.lit (.int k n)) := ⟨fun h => by rw [show _ = _ from h]; rfl⟩
instance (b : Bool) : One (.lit (.bool b)) := ⟨fun h => by rw [show _ = _ from h]; rfl⟩
instance (s : ByteArray) : One (.lit (.string s)) := ⟨fun h => by rw [show _ = _ from h]; rfl⟩
instance (a : Option Addr) : One (.lit (.pointer a)) := ⟨fun h => by rw [show _ = _ from h]; rfl⟩
instance (a : Option Addr) (n c : Nat) : One (.lit (.slice a n c)) := ⟨fun h => by rw [show _ = _ from h]; rfl⟩
instance (f : Fn) (a b : Array Value) : One (.lit (.func f a b)) := ⟨fun h => by rw [show _ = _ from h]; rfl⟩
instance (k : Nat) (xs : List (List G)) : One (.sl k xs) := ⟨fun ⟨_, _, h, _⟩ => by rw [h]; rfl⟩
instance (xs : List G) : One (.ref xs) := ⟨fun ⟨_, _, h, _⟩ => by rw [h]; rfl⟩
instance (f : Fn) (a b : List G) : One (.fn f a b) := ⟨fun ⟨_, _, h, _⟩ => by rw [h]; rfl⟩
instance (c : Bool) (x y : G) [One x] [One y] : One (bif c then x else y) := ⟨fun {w M v} h => by cases c; exact ‹One y›.one (M := M) (w := w) h; exact ‹One x›.one (M := M) (w := w) h⟩
class PartIs (x : G) (cs : outParam (List G)) : Prop where
 part : ∀ {w M v}, x.p w M v → Fits w M cs v.cells.toList
instance (cs : List G) : PartIs (.agg cs) cs := ⟨fun ⟨vs, h1, h2⟩ => by rw [h1]; simpa [Value.cells] using h2⟩
theorem cells_one {v : Value} (h : v.oneCell' = true) : v.cells = #[v] := by cases v <;> first | rfl | simp [Value.oneCell'] at h
instance (priority := low) (x : G) [One x] : PartIs x [x] := ⟨fun {w M v} h => by
 have h1 := One.one h;rw [cells_one h1]
 exact ⟨⟨h, h1⟩, trivial⟩⟩
theorem Fits.length {w : World} {M : Nat → Prop} : ∀ {xs : List G} {vs : List Value}, Fits w M xs vs → vs.length = xs.length
 | [], [], _ => rfl
 | _ :: _, _ :: _, h => by simp [Fits.length h.2]
 | [], _ :: _, h => h.elim
 | _ :: _, [], h => h.elim
theorem Fits.one {w : World} {M : Nat → Prop} : ∀ {xs : List G} {vs : List Value}, Fits w M xs vs → ∀ v ∈ vs, v.oneCell' = true
 | [], [], _, v, hv => by cases hv
 | _ :: _, _ :: _, h, v, hv => by
  rcases List.mem_cons.1 hv with rfl | hv
  ·exact h.1.2
  ·exact Fits.one h.2 v hv
 | [], _ :: _, h, _, _ => h.elim
 | _ :: _, [], h, _, _ => h.elim
theorem Fits.append {w : World} {M : Nat → Prop} : ∀ {a : List G} {va : List Value} {b : List G} {vb : List Value}, Fits w M a va → Fits w M b vb → Fits w M (a ++ b) (va ++ vb)
 | [], [], _, _, _, h2 => h2
 | _ :: _, _ :: _, _, _, h1, h2 => ⟨h1.1, Fits.append h1.2 h2⟩
 | [], _ :: _, _, _, h, _ => h.elim
 | _ :: _, [], _, _, h, _ => h.elim
theorem Fits.take {w : World} {M : Nat → Prop} : ∀ (n : Nat) {a : List G} {va : List Value}, Fits w M a va → Fits w M (a.take n) (va.take n)
 | 0, _, _, _ => by simp [Fits]
 | n + 1, [], [], _ => by simp [Fits]
 | n + 1, _ :: _, _ :: _, h => ⟨h.1, Fits.take n h.2⟩
 | _ + 1, [], _ :: _, h => h.elim
 | _ + 1, _ :: _, [], h => h.elim
theorem Fits.drop {w : World} {M : Nat → Prop} : ∀ (n : Nat) {a : List G} {va : List Value}, Fits w M a va → Fits w M (a.drop n) (va.drop n)
 | 0, _, _, h => h
 | n + 1, [], [], _ => by simp [Fits]
 | n + 1, _ :: _, _ :: _, h => Fits.drop n h.2
 | _ + 1, [], _ :: _, h => h.elim
 | _ + 1, _ :: _, [], h => h.elim
theorem Fits.get {w : World} {M : Nat → Prop} : ∀ (i : Nat) {a : List G} {va : List Value} {x : G}, Fits w M a va → a[i]? = some x → ∃ v, va[i]? = some v ∧ x.p w M v ∧ v.oneCell' = true
 | 0, _ :: _, v :: _, x, h, hx => ⟨v, rfl, by simp at hx; subst hx; exact h.1.1, h.1.2⟩
 | i + 1, _ :: _, _ :: _, x, h, hx => by simpa using Fits.get i h.2 (by simpa using hx)
 | _, [], _, _, _, hx => by simp at hx
 | _, _ :: _, [], _, h, _ => h.elim
theorem Cells.drop {w : World} {M : Nat → Prop} {b : Nat} : ∀ (n : Nat) {cs : List G} {o : Nat}, Cells w M b o cs → Cells w M b (o + n) (cs.drop n)
 | 0, _, _, h => h
 | n + 1, [], o, _ => trivial
 | n + 1, _ :: _, o, h => by
  have := Cells.drop n h.2;rw [show o + (n + 1) = o + 1 + n by omega];exact this
theorem Cells.take {w : World} {M : Nat → Prop} {b : Nat} : ∀ (n : Nat) {cs : List G} {o : Nat}, Cells w M b o cs → Cells w M b o (cs.take n)
 | 0, _, _, _ => by simp [Cells]
 | n + 1, [], _, _ => trivial
 | n + 1, _ :: _, _, h => ⟨h.1, Cells.take n h.2⟩
theorem Cells.vals {w : World} {M : Nat → Prop} {b : Nat} : ∀ {cs : List G} {o : Nat}, Cells w M b o cs → ∃ vs : List Value, Fits w M cs vs ∧ ∀ j v, vs[j]? = some v → w.cell? ⟨b, o + j, none⟩ = some v
 | [], _, _ => ⟨[], trivial, fun j v h => by simp at h⟩
 | c :: cs, o, ⟨⟨v, h1, h2, h3⟩, h4⟩ => by
  obtain ⟨vs, h5, h6⟩ := Cells.vals h4;refine ⟨v :: vs, ⟨⟨h2, h3⟩, h5⟩, fun j u hj => ?_⟩
  cases j with
  | zero => simp at hj; subst hj; exact h1
  | succ j =>
   have := h6 j u (by simpa using hj);rw [show o + (j + 1) = o + 1 + j by omega]; exact this
theorem cells_of_fits {w : World} {M : Nat → Prop} {b : Nat} {arr : Array Value} {t : TypeId} {fr : Nat × Nat} (hb : w.heap[b]? = some (.cells arr t fr)) :
  ∀ {cs : List G} {vs : List Value} {o : Nat}, Fits w M cs vs → (∀ j v, vs[j]? = some v → arr[o + j]? = some v) → Cells w M b o cs
 | [], [], _, _, _ => trivial
 | c :: cs, v :: vs, o, h, hj => by
  refine ⟨⟨v, ?_, h.1.1, h.1.2⟩, cells_of_fits hb h.2 fun j u hu => ?_⟩
  ·have := hj 0 v rfl
   simp [World.cell?, hb]; simpa using this
  ·have := hj (j + 1) u (by simpa using hu);rw [show o + 1 + j = o + (j + 1) by omega]; exact this
 | [], _ :: _, _, h, _ => h.elim
 | _ :: _, [], _, h, _ => h.elim
theorem eff_move {o : Oper} {ev : Operand → TV} {x : Operand} {r : TV} (ho : o.op = .move x) (h : ev x = r) (mem : Mem) : Eff E o mem ev r :=
 eff_same (fun w M ρ e hx => ⟨e x, by simp [execOp, ho], h ▸ hx x (by rw [ho]; simp [Op.operands])⟩) mem
theorem eff_assign {o : Oper} {ev : Operand → TV} {x : Operand} {r : TV} (ho : o.op = .assign x) (h : ev x = r) (mem : Mem) : Eff E o mem ev r :=
 eff_same (fun w M ρ e hx => ⟨e x, by simp [execOp, ho], h ▸ hx x (by rw [ho]; simp [Op.operands])⟩) mem
theorem eff_moveg {o : Oper} {ev : Operand → TV} {x : Operand} {y : G} (ho : o.op = .move x) (h : ev x = .g y) (mem : Mem) : Eff E o mem ev (.g y) := eff_move ho h mem
theorem eff_assigng {o : Oper} {ev : Operand → TV} {x : Operand} {y : G} (ho : o.op = .assign x) (h : ev x = .g y) (mem : Mem) : Eff E o mem ev (.g y) := eff_assign ho h mem
theorem eff_pick {o : Oper} {ev : Operand → TV} {c x y : Operand} {b : Bool} {r : TV} (ho : o.op = .pick c x y) (hc : ev c = .g (.bool b)) (h : (bif b then ev x else ev y) = r) (mem : Mem) : Eff E o mem ev r :=
 eff_same (fun w M ρ e hx => by
  have h1 := hx c (by rw [ho]; simp [Op.operands]);rw [hc] at h1;have h1' : e c = .bool b := h1;have h2 := hx x (by rw [ho]; simp [Op.operands]);have h3 := hx y (by rw [ho]; simp [Op.operands]);refine ⟨if b then e x else e y, ?_, ?_⟩
  ·simp [execOp, ho, h1', asBool]
  ·subst h; cases b <;> assumption) mem
theorem eff_or {o : Oper} {ev : Operand → TV} {c y : Operand} {b b' : Bool} {v : Value} (ho : o.op = .pick c (.const (.bool true)) y) (hc : ev c = .g (.bool b))
  (hk : ev (.const (.bool true)) = .g (.bool true)) (hy : ev y = bif (b == false) then .g (.bool b') else .g (.lit v)) (mem : Mem) : Eff E o mem ev (.g (.bool (b || b'))) :=
 eff_pick ho hc (by rw [hk, hy]; cases b <;> rfl) mem
theorem eff_and {o : Oper} {ev : Operand → TV} {c x : Operand} {b b' : Bool} {v : Value} (ho : o.op = .pick c x (.const (.bool false))) (hc : ev c = .g (.bool b))
  (hk : ev (.const (.bool false)) = .g (.bool false)) (hx : ev x = bif (b == true) then .g (.bool b') else .g (.lit v)) (mem : Mem) : Eff E o mem ev (.g (.bool (b && b'))) :=
 eff_pick ho hc (by rw [hk, hx]; cases b <;> rfl) mem
section bin
variable {o : Oper} {ev : Operand → TV} {op : BinOp} {t t' : TypeId} {x y : Operand} {k : IntKind} {a b : Int}
theorem eff_bin {u v : Value} {r : G} (ho : o.op = .binOp op t x y t') (hx : ev x = .g (.lit u)) (hy : ev y = .g (.lit v))
  (hr : ∀ w, ∃ z, ((do eqGuard op t x y u v; binOp op t u v) : Sem Value).run E.P w = .ok z w ∧ ∀ M, r.p w M z) (mem : Mem) : Eff E o mem ev (.g r) :=
 eff_same (fun w M ρ e he => by
  have h1 := he x (by rw [ho]; simp [Op.operands]);rw [hx] at h1;have h1' : e x = u := h1;have h2 := he y (by rw [ho]; simp [Op.operands]);rw [hy] at h2;have h2' : e y = v := h2;obtain ⟨z, hz, hr⟩ := hr w;refine ⟨z, ?_, hr M⟩;simp only [execOp, ho, h1', h2'];rw [Sem.run_bind, hz]
  rfl) mem
theorem eff_int {r : Value} (ho : o.op = .binOp op t x y t') (hx : ev x = .g (.lit (.int k a))) (hy : ev y = .g (.lit (.int k b))) (hr : binOp op t (.int k a) (.int k b) = pure r) (mem : Mem) : Eff E o mem ev (.g (.lit r)) :=
 eff_bin ho hx hy (fun w => ⟨r, by rw [eqGuard_at_int, hr]; rfl, fun _ => rfl⟩) mem
theorem eff_lss (ho : o.op = .binOp .lss t x y t') (hx : ev x = .g (.lit (.int k a))) (hy : ev y = .g (.lit (.int k b))) (mem : Mem) : Eff E o mem ev (.g (.bool (decide (a < b)))) := eff_int ho hx hy (binOp_lss t k a b) mem
theorem eff_leq (ho : o.op = .binOp .leq t x y t') (hx : ev x = .g (.lit (.int k a))) (hy : ev y = .g (.lit (.int k b))) (mem : Mem) : Eff E o mem ev (.g (.bool (decide (a ≤ b)))) := eff_int ho hx hy (binOp_leq t k a b) mem
theorem eff_gtr (ho : o.op = .binOp .gtr t x y t') (hx : ev x = .g (.lit (.int k a))) (hy : ev y = .g (.lit (.int k b))) (mem : Mem) : Eff E o mem ev (.g (.bool (decide (b < a)))) := eff_int ho hx hy (binOp_gtr t k a b) mem
theorem eff_geq (ho : o.op = .binOp .geq t x y t') (hx : ev x = .g (.lit (.int k a))) (hy : ev y = .g (.lit (.int k b))) (mem : Mem) : Eff E o mem ev (.g (.bool (decide (b ≤ a)))) := eff_int ho hx hy (binOp_geq t k a b) mem
theorem eff_eql (ho : o.op = .binOp .eql t x y t') (hx : ev x = .g (.lit (.int k a))) (hy : ev y = .g (.lit (.int k b))) (mem : Mem) : Eff E o mem ev (.g (.bool (decide (a = b)))) := by
 have := eff_int (E := E) ho hx hy (binOp_eql t k a b) mem
 rwa [show (a == b) = decide (a = b) by rw [Bool.eq_iff_iff]; simp] at this
theorem eff_neq (ho : o.op = .binOp .neq t x y t') (hx : ev x = .g (.lit (.int k a))) (hy : ev y = .g (.lit (.int k b))) (mem : Mem) : Eff E o mem ev (.g (.bool (decide (a ≠ b)))) := by
 have := eff_int (E := E) ho hx hy (binOp_neq t k a b) mem
 rwa [show (a != b) = decide (a ≠ b) by rw [Bool.eq_iff_iff]; simp] at this
def I64 (n : Int) : Prop := -9223372036854775808 ≤ n ∧ n ≤ 9223372036854775807
theorem wrap_i64 {n : Int} (h : I64 n) : IntKind.i64.wrap n = n := IntWalk.i64_in n h
theorem eff_add (ho : o.op = .binOp .add t x y t') (hx : ev x = .g (.int a)) (hy : ev y = .g (.int b)) (h : I64 (a + b)) (mem : Mem) : Eff E o mem ev (.g (.int (a + b))) :=
 eff_int ho hx hy (by rw [binOp_add]; simp only [Op.intArith, wrap_i64 h]) mem
theorem eff_sub (ho : o.op = .binOp .sub t x y t') (hx : ev x = .g (.int a)) (hy : ev y = .g (.int b)) (h : I64 (a - b)) (mem : Mem) : Eff E o mem ev (.g (.int (a - b))) :=
 eff_int ho hx hy (by rw [binOp_sub]; simp only [Op.intArith, wrap_i64 h]) mem
theorem eff_addw (ho : o.op = .binOp .add t x y t') (hx : ev x = .g (.lit (.int k a))) (hy : ev y = .g (.lit (.int k b))) (mem : Mem) : Eff E o mem ev (.g (.lit (.int k (k.wrap (a + b))))) := eff_int ho hx hy (by rw [binOp_add]; rfl) mem
theorem eff_subw (ho : o.op = .binOp .sub t x y t') (hx : ev x = .g (.lit (.int k a))) (hy : ev y = .g (.lit (.int k b))) (mem : Mem) : Eff E o mem ev (.g (.lit (.int k (k.wrap (a - b))))) := eff_int ho hx hy (by rw [binOp_sub]; rfl) mem
theorem eff_mulw (ho : o.op = .binOp .mul t x y t') (hx : ev x = .g (.lit (.int k a))) (hy : ev y = .g (.lit (.int k b))) (mem : Mem) : Eff E o mem ev (.g (.lit (.int k (k.wrap (a * b))))) := eff_int ho hx hy (by rw [binOp_mul]; rfl) mem
theorem eff_remt (ho : o.op = .binOp .rem t x y t') (hx : ev x = .g (.int a)) (hy : ev y = .g (.int b)) (hb : b ≠ 0) (mem : Mem) : Eff E o mem ev (.g (.int (a.tmod b))) :=
 eff_int ho hx hy (by rw [binOp_rem, Op.intDiv, if_neg hb]) mem
variable {s s' : ByteArray}
theorem toList_inj {s s' : ByteArray} : (s.toList == s'.toList) = decide (s = s') := by
 rw [Bool.eq_iff_iff];simp only [beq_iff_eq, decide_eq_true_eq]
 constructor
 ·intro h;rw [ByteArray.toList_eq, ByteArray.toList_eq] at h;have := Array.toList_inj.1 h
  cases s; cases s'; simp at this; subst this; rfl
 ·intro h; rw [h]
theorem eff_str {r : Value} (ho : o.op = .binOp op t x y t') (hx : ev x = .g (.str s)) (hy : ev y = .g (.str s')) (hr : Op.stringOp op s s' = pure r) (hop : ∀ u v, binOp op t (.string u) (.string v) = Op.stringOp op u v) (mem : Mem) : Eff E o mem ev (.g (.lit r)) :=
 eff_bin ho hx hy (fun w => ⟨r, by rw [eqGuard_at_string, hop, hr]; rfl, fun _ => rfl⟩) mem
theorem eff_seq (ho : o.op = .binOp .eql t x y t') (hx : ev x = .g (.str s)) (hy : ev y = .g (.str s')) (mem : Mem) : Eff E o mem ev (.g (.bool (decide (s = s')))) := by
 rw [← toList_inj];exact eff_str ho hx hy rfl (fun _ _ => rfl) mem
theorem eff_sne (ho : o.op = .binOp .neq t x y t') (hx : ev x = .g (.str s)) (hy : ev y = .g (.str s')) (mem : Mem) : Eff E o mem ev (.g (.bool (!decide (s = s')))) := by
 rw [← toList_inj];exact eff_str ho hx hy rfl (fun _ _ => rfl) mem
end bin
end
section
variable {E : Env} {w0 : World} {M0 : Nat → Prop}
theorem Cells.left {w : World} {M : Nat → Prop} {b : Nat} : ∀ {cs ds : List G} {o : Nat}, Cells w M b o (cs ++ ds) → Cells w M b o cs
 | [], _, _, _ => trivial
 | _ :: _, _, _, h => ⟨h.1, Cells.left h.2⟩
theorem flatten_drop {k : Nat} : ∀ {xs : List (List G)} (i : Nat), (∀ c ∈ xs, c.length = k) → xs.flatten.drop (i * k) = (xs.drop i).flatten
 | _, 0, _ => by simp
 | [], i + 1, _ => by simp
 | c :: xs, i + 1, h => by
  have hc : c.length = k := h c List.mem_cons_self;rw [List.flatten_cons, show (i + 1) * k = c.length + i * k by rw [hc]; rw [Nat.succ_mul]; omega, ← List.drop_drop, List.drop_left', List.drop_succ_cons]
  ·exact flatten_drop i fun c hc => h c (List.mem_cons_of_mem _ hc)
  ·rfl
theorem cells_elem {w : World} {M : Nat → Prop} {b o k i : Nat} {xs : List (List G)} {c : List G} (hk : ∀ c ∈ xs, c.length = k) (h : Cells w M b o xs.flatten) (hi : xs[i]? = some c) : Cells w M b (o + i * k) c := by
 have h1 := Cells.drop (i * k) h;rw [flatten_drop i hk] at h1
 have h2 : xs.drop i = c :: xs.drop (i + 1) := by
  rw [List.drop_eq_getElem_cons (List.getElem?_eq_some_iff.1 hi).1];rw [(List.getElem?_eq_some_iff.1 hi).2]
 rw [h2, List.flatten_cons] at h1;exact h1.left
theorem run_box {P : Program} (t : TypeId) (v : Value) (w : World) : (Instr.box t v).run P w = .ok (.pointer (some ⟨w.heap.size, 0, none⟩)) (w.alloc (.cells v.cells t)) := by
 simp [Instr.box, newVar, newRow]
theorem ref_new {w : World} {M : Nat → Prop} (hM : ∀ b, M b → b < w.heap.size) {cs : List G} {arr : Array Value} {t : TypeId} (h : Fits w M cs arr.toList) : (G.ref cs).p (w.alloc (.cells arr t)) M (.pointer (some ⟨w.heap.size, 0, none⟩)) := by
 have hg := Grow.alloc w (.cells arr t);refine ⟨w.heap.size, 0, rfl, .inr (fun h => Nat.lt_irrefl _ (hM _ h)), ?_⟩;refine cells_of_fits (heap_alloc_new w _) (h.mono hg.hh (fun _ _ h => h)) ?_;intro j v hj
 simpa using hj
theorem eff_box {o : Oper} {ev : Operand → TV} {t : TypeId} {x : Operand} {y : G} {cs : List G} (ho : o.op = .box t x) (hx : ev x = .g y) [PartIs y cs] (mem : Mem) : Eff E o mem ev (.g (.ref cs)) :=
 eff_pure (fun w M ρ e hM he => by
  have h1 := he x (by rw [ho]; simp [Op.operands]);rw [hx] at h1;have h2 : y.p w M (e x) := h1;refine ⟨_, _, ?_, Grow.alloc w (.cells (e x).cells t), ref_new hM (PartIs.part h2)⟩
  simp [execOp, ho, run_box]) mem
def fieldK (P : Program) (s : TypeId) (i : Nat) : Option (Nat × Nat × Bool) := match P.underlying s with
 | some (.struct fs) => match fs[i]? with
  | some f => (tyK P f.type).map fun kb => (f.offset, kb.1, kb.2)
  | none => none
 | _ => none
theorem fieldK_spec {P : Program} {s : TypeId} {i off k : Nat} {b : Bool} (h : fieldK P s i = some (off, k, b)) : ∃ fs f, P.underlying s = some (.struct fs) ∧ fs[i]? = some f ∧ f.offset = off ∧ tyK P f.type = some (k, b) := by
 unfold fieldK at h
 split at h
 ·rename_i fs hfs
  split at h
  ·rename_i f hf
   cases ht : tyK P f.type with
   | none => simp [ht] at h
   | some kb =>
    obtain ⟨k', b'⟩ := kb
    simp [ht] at h
    obtain ⟨h1, h2, h3⟩ := h;subst h1; subst h2; subst h3;exact ⟨fs, f, hfs, hf, rfl, ht⟩
  ·cases h
 ·cases h
theorem run_fieldAt {P : Program} {s : TypeId} {i off k : Nat} {b : Bool} (h : fieldK P s i = some (off, k, b)) (hk : k ≠ 0) (bl o : Nat) (w : World) :
  (Instr.fieldAt s (.pointer (some ⟨bl, o, none⟩)) i).run P w = .ok (.pointer (some ⟨bl, o + off, none⟩)) w := by
 obtain ⟨fs, f, h1, h2, h3, h4⟩ := fieldK_spec h
 simp [Instr.fieldAt, underlying, h1, h2, Instr.sureAddr, fieldPlace, run_sizeOf h4, hk, h3, Addr.add_lit]
theorem eff_fieldAddr {o : Oper} {ev : Operand → TV} {s : TypeId} {x : Operand} {i off k : Nat} {b : Bool} {cs : List G} (ho : o.op = .fieldAddr s x i) (hf : fieldK E.P s i = some (off, k + 1, b)) (hx : ev x = .g (.ref cs)) (mem : Mem) : Eff E o mem ev (.g (.ref (cs.drop off))) :=
 eff_same (fun w M ρ e he => by
  have h1 := he x (by rw [ho]; simp [Op.operands]);rw [hx] at h1;obtain ⟨bl, off', h2, h3, h4⟩ := h1;refine ⟨.pointer (some ⟨bl, off' + off, none⟩), ?_, bl, off' + off, rfl, ?_, h4.drop off⟩
  ·simp [execOp, ho, h2, run_fieldAt hf (Nat.succ_ne_zero k)]
  ·rcases h3 with rfl | h3
   ·exact .inl (by simp)
   ·exact .inr h3) mem
theorem run_loadVar_agg {P : Program} {t : TypeId} {k : Nat} (h : tyK P t = some (k, true)) {w : World} {bl o : Nat} {vs : List Value} (hl : vs.length = k) (hc : ∀ j v, vs[j]? = some v → w.cell? ⟨bl, o + j, none⟩ = some v) :
  (loadVar t ⟨bl, o, none⟩).run P w = .ok (.agg vs.toArray) w := by
 subst hl;have := run_loadCells_list (P := P) (w := w) ⟨bl, o, none⟩ vs (fun j v hj => by rw [Addr.add_lit]; exact hc j v hj)
 simp [loadVar, run_isAgg h, run_sizeOf h, this]
theorem run_loadVar_one {P : Program} {t : TypeId} {k : Nat} (h : tyK P t = some (k, false)) {w : World} {a : Addr} {v : Value} (hc : w.cell? a = some v) : (loadVar t a).run P w = .ok v w := by
 simp [loadVar, run_isAgg h, load, Sem.run, hc]
theorem eff_loadA {o : Oper} {ev : Operand → TV} {t : TypeId} {x : Operand} {k : Nat} {cs ds : List G} (ho : o.op = .load t x) (ht : tyK E.P t = some (k, true)) (hx : ev x = .g (.ref cs)) (hd : cs.take k = ds) (hl : ds.length = k) (mem : Mem) : Eff E o mem ev (.g (.agg ds)) :=
 eff_same (fun w M ρ e he => by
  have h1 := he x (by rw [ho]; simp [Op.operands]);rw [hx] at h1;obtain ⟨bl, off', h2, h3, h4⟩ := h1;obtain ⟨vs, h5, h6⟩ := (h4.take k).vals;rw [hd] at h5;refine ⟨.agg vs.toArray, ?_, vs, rfl, h5⟩
  simp [execOp, ho, h2, Instr.loadAt, Instr.sureAddr, run_loadVar_agg ht (h5.length.trans hl) h6]) mem
theorem eff_load {o : Oper} {ev : Operand → TV} {t : TypeId} {x : Operand} {k : Nat} {c : G} {cs : List G} (ho : o.op = .load t x) (ht : tyK E.P t = some (k, false)) (hx : ev x = .g (.ref (c :: cs))) (mem : Mem) : Eff E o mem ev (.g c) :=
 eff_same (fun w M ρ e he => by
  have h1 := he x (by rw [ho]; simp [Op.operands]);rw [hx] at h1;obtain ⟨bl, off', h2, h3, ⟨v, h4, h5, _⟩, _⟩ := h1;refine ⟨v, ?_, h5⟩
  simp [execOp, ho, h2, Instr.loadAt, Instr.sureAddr, run_loadVar_one ht h4]) mem
theorem sl_mem {w : World} {M : Nat → Prop} {k : Nat} {xs : List (List G)} {u : Value} {i : Nat} {c : List G} (hk : 0 < k) (h : (G.sl k xs).p w M u) (hi : xs[i]? = some c) :
  ∃ b o cap, u = .slice (some ⟨b, o, none⟩) xs.length cap ∧ xs.length ≤ cap ∧ cap ≤ maxLen ∧ ¬ M b ∧ Cells w M b (o + i * k) c := by
 obtain ⟨a, cap, h1, h2, h3, h4, h5⟩ := h;have hmem : c ∈ xs := List.mem_of_getElem? hi
 rcases h5 with ⟨h5, _⟩ | ⟨b, o, h5, h6, h7⟩
 ·have : c = [] := by
   have := List.flatten_eq_nil_iff.1 h5 c hmem;exact this
  have hc := h4 c hmem;rw [this] at hc
  simp at hc; omega
 ·exact ⟨b, o, cap, by rw [h1, h5], h2, h3, h6, cells_elem h4 h7 hi⟩
theorem eff_indexAddr {o : Oper} {ev : Operand → TV} {t el : TypeId} {x ix : Operand} {k : Nat} {b : Bool} {kk : IntKind} {n : Int} {xs : List (List G)} {c : List G} (ho : o.op = .indexAddr t x ix)
  (ht : E.P.underlying t = some (.slice el)) (he : tyK E.P el = some (k + 1, b)) (hx : ev x = .g (.sl (k + 1) xs)) (hi : ev ix = .g (.lit (.int kk n))) (h0 : 0 ≤ n) (hc : xs[n.toNat]? = some c) (mem : Mem) :
  Eff E o mem ev (.g (.ref c)) :=
 eff_same (fun w M ρ e hev => by
  have h1 := hev x (by rw [ho]; simp [Op.operands]);rw [hx] at h1;have h2 := hev ix (by rw [ho]; simp [Op.operands]);rw [hi] at h2;have h2' : e ix = .int kk n := h2;obtain ⟨bl, off, cap, h3, h4, h5, h6, h7⟩ := sl_mem (Nat.succ_pos k) h1 hc;have hlt : n.toNat < xs.length := (List.getElem?_eq_some_iff.1 hc).1;refine ⟨.pointer (some ⟨bl, off + n.toNat * (k + 1), none⟩), ?_, bl, _, rfl, .inr h6, h7⟩
  have hn : n < (xs.length : Int) := by omega
  simp [execOp, ho, h3, h2', Instr.indexAt, asIntOf, underlying, ht, run_sizeOf he, h0, hn, Addr.add_lit]) mem
theorem eff_len {o : Oper} {ev : Operand → TV} {t el : TypeId} {x : Operand} {k : Nat} {xs : List (List G)} (ho : o.op = .call ⟨.builtin .len, #[x], #[t]⟩)
  (ht : E.P.underlying t = some (.slice el)) (hx : ev x = .g (.sl k xs)) (mem : Mem) : Eff E o mem ev (.g (.int (xs.length : Int))) :=
 eff_same (fun w M ρ e hev => by
  have h1 := hev x (by rw [ho]; simp [Op.operands, Call.operands]);rw [hx] at h1;obtain ⟨a, cap, h2, h3⟩ := h1;refine ⟨.int .i64 xs.length, ?_, rfl⟩
  simp [execOp, ho, resolve, invoke, builtin, Builtin.len_, underlying, ht, h2, goInt]) mem
theorem eff_lenS {o : Oper} {ev : Operand → TV} {t : TypeId} {x : Operand} {s : ByteArray} (ho : o.op = .call ⟨.builtin .len, #[x], #[t]⟩)
  (ht : E.P.underlying t = some .string) (hx : ev x = .g (.str s)) (mem : Mem) : Eff E o mem ev (.g (.int (s.size : Int))) :=
 eff_same (fun w M ρ e hev => by
  have h1 := hev x (by rw [ho]; simp [Op.operands, Call.operands]);rw [hx] at h1;have h2 : e x = .string s := h1;refine ⟨.int .i64 s.size, ?_, rfl⟩
  simp [execOp, ho, resolve, invoke, builtin, Builtin.len_, underlying, ht, h2, goInt]) mem
theorem eff_extract {o : Oper} {ev : Operand → TV} {x : Operand} {i : Nat} {cs : List G} {c : G} (ho : o.op = .extract x i) (hx : ev x = .g (.tup cs)) (hc : cs[i]? = some c) (mem : Mem) : Eff E o mem ev (.g c) :=
 eff_same (fun w M ρ e hev => by
  have h1 := hev x (by rw [ho]; simp [Op.operands]);rw [hx] at h1;obtain ⟨vs, h2, h3⟩ := h1
  have key : ∀ (i : Nat) (cs : List G) (vs : List Value), FitsT w M cs vs → cs[i]? = some c → ∃ v, vs[i]? = some v ∧ c.p w M v := by
   intro i
   induction i with
   | zero => intro cs vs h hc; cases cs with
    | nil => simp at hc
    | cons x cs => cases vs with
     | nil => exact h.elim
     | cons v vs => simp at hc; subst hc; exact ⟨v, rfl, h.1⟩
   | succ i ih => intro cs vs h hc; cases cs with
    | nil => simp at hc
    | cons x cs => cases vs with
     | nil => exact h.elim
     | cons v vs => simpa using ih cs vs h.2 (by simpa using hc)
  obtain ⟨v, h4, h5⟩ := key i cs vs h3 hc;refine ⟨v, ?_, h5⟩
  simp [execOp, ho, Instr.extract, h2, h4]) mem
theorem eff_makeFunc {o : Oper} {ev : Operand → TV} {f : Fn} {first cap : Array Operand} {fs cs : List G} (ho : o.op = .makeFunc f first cap) (hf : first.toList.map ev = fs.map TV.g) (hc : cap.toList.map ev = cs.map TV.g) (mem : Mem) : Eff E o mem ev (.g (.fn f fs cs)) :=
 eff_same (fun w M ρ e he => by
  refine ⟨.func f (first.map e) (cap.map e), by simp [execOp, ho, Instr.makeFunc], first.toList.map e, cap.toList.map e, by simp [← Array.toList_map], ?_, ?_⟩
  ·exact fits_of_ev (fun x hx => he x (by rw [ho]; simp [Op.operands]; exact .inl (by simpa using hx))) hf
  ·exact fits_of_ev (fun x hx => he x (by rw [ho]; simp [Op.operands]; exact .inr (by simpa using hx))) hc) mem
theorem eff_not {o : Oper} {ev : Operand → TV} {t : TypeId} {x : Operand} {b : Bool} (ho : o.op = .unOp .not t x) (hx : ev x = .g (.bool b)) (mem : Mem) : Eff E o mem ev (.g (.bool !b)) :=
 eff_same (fun w M ρ e he => by
  have h1 := he x (by rw [ho]; simp [Op.operands]);rw [hx] at h1;have h2 : e x = .bool b := h1
  exact ⟨.bool !b, by simp [execOp, ho, h2, Op.unary], rfl⟩) mem
theorem eff_conv {o : Oper} {ev : Operand → TV} {s t : TypeId} {x : Operand} {k k' : IntKind} {n : Int} {ds : TypeDesc} (ho : o.op = .convert s t x) (hs : E.P.underlying s = some ds) (ht : E.P.underlying t = some (.int k')) (hx : ev x = .g (.lit (.int k n))) (mem : Mem) : Eff E o mem ev (.g (.lit (.int k' (k'.wrap n)))) :=
 eff_same (fun w M ρ e he => by
  have h1 := he x (by rw [ho]; simp [Op.operands]);rw [hx] at h1;have h2 : e x = .int k n := h1;refine ⟨.int k' (k'.wrap n), ?_, rfl⟩;simp only [execOp, ho, h2]
  simp [convert, underlying, hs, ht, Conv.intToInt]) mem
end
section
variable {E : Env} {w0 : World} {M0 : Nat → Prop}
def setAt {α : Type} (cells : List α) (off : Nat) (cs : List α) : List α := cells.take off ++ cs ++ cells.drop (off + cs.length)
theorem foldl_set (off : Nat) : ∀ (vs : List Value) (j : Nat) (cells : Array Value), off + j + vs.length ≤ cells.size →
    ((vs.zipIdx j).foldl (fun cs (x : Value × Nat) => cs.setIfInBounds (off + x.2) x.1) cells).toList = cells.toList.take (off + j) ++ vs ++ cells.toList.drop (off + j + vs.length)
  | [], j, cells, _ => by simp
  | v :: vs, j, cells, h => by
    simp only [List.length_cons] at h
    rw [List.zipIdx_cons, List.foldl_cons, foldl_set off vs (j + 1) _ (by simp; omega)]
    simp only [Array.toList_setIfInBounds]
    have hlt : off + j < cells.toList.length := by simp; omega
    apply List.ext_getElem?
    intro n
    simp only [List.append_assoc, List.getElem?_append, List.length_take, List.length_set, Array.length_toList, List.getElem?_take, List.getElem?_set, List.getElem?_drop, List.length_cons]
    simp only [Array.length_toList] at hlt
    repeat' split
    all_goals first
      | rfl
      | (exfalso; omega)
      | (simp_all; done)
      | (congr 1; omega)
      | (have e : n - min (off + j) cells.size = 0 := by omega
         rw [e]; rfl)
      | (have e : n - min (off + j) cells.size = (n - min (off + (j + 1)) cells.size) + 1 := by omega
         rw [e, List.getElem?_cons_succ])
      | (have e : n = off + j := by omega
         subst e
         simp)
      | skip
theorem setAt_fits {w : World} {M : Nat → Prop} {cells cs : List G} {vcells vs : List Value} (off : Nat) (h : Fits w M cells vcells) (k : Fits w M cs vs) : Fits w M (setAt cells off cs) (setAt vcells off vs) := by
  unfold setAt
  rw [k.length]
  exact ((h.take off).append k).append (h.drop _)
def fillG (place : Nat → Option (Nat × Nat)) (cells : List G) : List (Nat × List G) → Option (List G)
  | [] => some cells
  | (i, cs) :: rest => match place i with
    | none => none
    | some (off, size) => if cs.length = size ∧ off + size ≤ cells.length then fillG place (setAt cells off cs) rest else none
def PartsG (ev : Operand → TV) : List (Nat × Operand) → List (Nat × List G) → Prop
  | [], [] => True
  | (i, x) :: ps, (j, cs) :: qs => i = j ∧ (∃ y, ev x = .g y ∧ Nonempty (PartIs y cs)) ∧ PartsG ev ps qs
  | _, _ => False
theorem fill_fits {w : World} {M : Nat → Prop} {ρ : Rho} {ev : Operand → TV} {e : Operand → Value} {place : Nat → Option (Nat × Nat)} : ∀ {ps : List (Nat × Operand)} {qs : List (Nat × List G)} {cells out : List G} {vcells : Array Value},
    PartsG ev ps qs → (∀ p ∈ ps, TRel w M ρ (ev p.2) (e p.2)) → Fits w M cells vcells.toList → fillG place cells qs = some out →
    ∃ vout, Instr.fill place vcells (ps.map fun p => (p.1, e p.2)) = some vout ∧ Fits w M out vout.toList
  | [], [], cells, out, vcells, _, _, hc, ho => by
    simp only [fillG, Option.some.injEq] at ho
    subst ho
    exact ⟨vcells, by simp [Instr.fill], hc⟩
  | (i, x) :: ps, (j, cs) :: qs, cells, out, vcells, hp, he, hc, ho => by
    obtain ⟨rfl, ⟨y, hy, ⟨hpart⟩⟩, hp'⟩ := hp
    simp only [fillG] at ho
    cases hpl : place i with
    | none => simp [hpl] at ho
    | some os =>
      obtain ⟨off, size⟩ := os
      simp only [hpl] at ho
      split at ho
      · rename_i hcond
        obtain ⟨h1, h2⟩ := hcond
        have hx := he (i, x) List.mem_cons_self
        rw [hy] at hx
        have hfx := hpart.part (show y.p w M (e x) from hx)
        have hl1 : (e x).cells.size = size := by rw [← Array.length_toList, hfx.length, h1]
        have hl2 : off + (e x).cells.size ≤ vcells.size := by rw [hl1, ← Array.length_toList (xs := vcells), hc.length]; exact h2
        have hset : ((e x).cells.zipIdx.foldl (fun cs (c, j) => cs.setIfInBounds (off + j) c) vcells).toList = setAt vcells.toList off (e x).cells.toList := by
          have := foldl_set off (e x).cells.toList 0 vcells (by simpa using hl2)
          simp only [Nat.add_zero] at this
          rw [← Array.foldl_toList, Array.toList_zipIdx]
          exact this
        obtain ⟨vout, h3, h4⟩ := fill_fits (vcells := (e x).cells.zipIdx.foldl (fun cs (c, j) => cs.setIfInBounds (off + j) c) vcells) hp' (fun p hp => he p (List.mem_cons_of_mem _ hp)) (by rw [hset]; exact setAt_fits off hc hfx) ho
        refine ⟨vout, ?_, h4⟩
        simp only [List.map_cons, Instr.fill, hpl]
        rw [if_neg (by simp [hl1]; omega)]
        exact h3
      · cases ho
  | [], _ :: _, _, _, _, h, _, _, _ => h.elim
  | _ :: _, [], _, _, _, h, _, _, _ => h.elim
def zeroK (P : Program) (t : TypeId) : Option (List Value) := match P.info? t with
  | some i => i.zero.map fun z => z.cells.toList
  | none => none
def placesK (P : Program) (t : TypeId) : Option (List (Nat × Nat)) := match P.underlying t with
  | some (.struct fs) => fs.toList.mapM (fun f => (P.info? f.type).map fun i => (f.offset, i.size))
  | _ => none
theorem fits_lits {w : World} {M : Nat → Prop} : ∀ {vs : List Value}, (∀ v ∈ vs, v.oneCell' = true) → Fits w M (vs.map G.lit) vs
  | [], _ => trivial
  | v :: vs, h => ⟨⟨rfl, h v List.mem_cons_self⟩, fits_lits fun v hv => h v (List.mem_cons_of_mem _ hv)⟩
theorem eff_build {o : Oper} {ev : Operand → TV} {t : TypeId} {ps : Array (Nat × Operand)} {qs : List (Nat × List G)} {zs : List Value} {pl : List (Nat × Nat)} {out : List G} (ho : o.op = .build t ps)
    (hz : zeroK E.P t = some zs) (hz1 : zs.all Value.oneCell' = true) (hp : placesK E.P t = some pl) (hq : PartsG ev ps.toList qs) (hf : fillG (pl.toArray[·]?) (zs.map G.lit) qs = some out) (mem : Mem) : Eff E o mem ev (.g (.agg out)) :=
  eff_same (fun w M ρ e he => by
    unfold zeroK at hz
    cases hi : E.P.info? t with
    | none => simp [hi] at hz
    | some it =>
      cases hzz : it.zero with
      | none => simp [hi, hzz] at hz
      | some z =>
        simp [hi, hzz] at hz
        unfold placesK at hp
        split at hp
        · rename_i fs hfs
          have hlits : Fits w M (zs.map G.lit) z.cells.toList := by rw [hz]; exact fits_lits (by simpa using hz1)
          have hx : ∀ p ∈ ps.toList, TRel w M ρ (ev p.2) (e p.2) := fun p hp => he p.2 (by rw [ho]; simp [Op.operands]; exact ⟨p.1, by simpa using hp⟩)
          obtain ⟨vout, h1, h2⟩ := fill_fits (vcells := z.cells) hq hx hlits hf
          refine ⟨.agg vout, ?_, vout.toList, by simp, h2⟩
          have hb : E.P.built t (ps.map fun (i, x) => (i, e x)).toList = some vout := by
            unfold Program.built
            simp only [hi, hfs, hzz, hp]
            rw [Array.toList_map]
            exact h1
          have := run_build (P := E.P) w t (ps.map fun (i, x) => (i, e x)) vout hb
          simp only [execOp, ho]
          rw [Sem.run_bind, this]
          rfl
        · cases hp) mem
def seqParts : Nat → List (List G) → List (Nat × List G)
  | _, [] => []
  | i, c :: cs => (i, c) :: seqParts (i + 1) cs
theorem fillG_seq {k : Nat} (hk : 0 < k) : ∀ (xs : List (List G)) (i : Nat) (cells : List G), (∀ c ∈ xs, c.length = k) → cells.length = (i + xs.length) * k →
    fillG (fun i => some (i * k, k)) cells (seqParts i xs) = some (cells.take (i * k) ++ xs.flatten)
  | [], i, cells, _, hl => by
    simp only [seqParts, fillG, List.flatten_nil, List.append_nil]
    rw [List.take_of_length_le]
    rw [hl]; simp
  | c :: xs, i, cells, h, hl => by
    have hc := h c List.mem_cons_self
    simp only [List.length_cons] at hl
    have hm : (i + (xs.length + 1)) * k = i * k + k + xs.length * k := by rw [Nat.add_mul, Nat.add_mul]; omega
    simp only [seqParts, fillG]
    rw [if_pos ⟨hc, by rw [hl, hm]; omega⟩]
    have hlen : (setAt cells (i * k) c).length = cells.length := by
      simp only [setAt, List.length_append, List.length_take, List.length_drop, hc]
      rw [hl, hm]
      omega
    rw [fillG_seq hk xs (i + 1) _ (fun c hc => h c (List.mem_cons_of_mem _ hc)) (by rw [hlen, hl]; congr 1; omega)]
    congr 1
    rw [List.flatten_cons, ← List.append_assoc]
    congr 1
    simp only [setAt]
    have e1 : (cells.take (i * k) ++ c).length = (i + 1) * k := by
      simp only [List.length_append, List.length_take, hc, hl, hm]
      rw [Nat.add_mul]; omega
    rw [← e1, List.take_left']
    rfl
theorem eff_buildSlice {o : Oper} {ev : Operand → TV} {t el : TypeId} {n k : Nat} {b : Bool} {zs : List Value} {ps : Array (Nat × Operand)} {xs : List (List G)} (ho : o.op = .buildSlice t n ps) (ht : E.P.underlying t = some (.slice el))
    (he : tyK E.P el = some (k + 1, b)) (hz : zeroK E.P el = some zs) (hz1 : zs.all Value.oneCell' = true) (hq : PartsG ev ps.toList (seqParts 0 xs)) (hn : xs.length = n) (hk : ∀ c ∈ xs, c.length = k + 1) (hb : n * (k + 1) ≤ 16777216) (mem : Mem) : Eff E o mem ev (.g (.sl (k + 1) xs)) :=
  eff_pure (fun w M ρ e hM hev => by
    subst hn
    unfold zeroK at hz
    cases hi : E.P.info? el with
    | none => simp [hi] at hz
    | some it =>
      cases hzz : it.zero with
      | none => simp [hi, hzz] at hz
      | some z =>
        simp [hi, hzz] at hz
        have hx : ∀ p ∈ ps.toList, TRel w M ρ (ev p.2) (e p.2) := fun p hp => hev p.2 (by rw [ho]; simp [Op.operands]; exact ⟨p.1, by simpa using hp⟩)
        -- the zero cells
        have hzz1 : ∀ v ∈ z.cells.toList, v.oneCell' = true := by rw [hz]; simpa using hz1
        by_cases hxs : xs = []
        · subst hxs
          have hps : ps = #[] := by
            cases hp : ps.toList with
            | nil => simpa using hp
            | cons x r => rw [hp] at hq; exact hq.elim
          subst hps
          refine ⟨.slice (some ⟨w.heap.size, 0, none⟩) 0 0, w.alloc (.cells #[] el), ?_, Grow.alloc w _, some ⟨w.heap.size, 0, none⟩, 0, rfl, Nat.le_refl _, Nat.zero_le _, by simp, .inl ⟨rfl, fun h => by cases h⟩⟩
          simp [execOp, ho, Instr.buildSlice, underlying, ht, run_sizeOf he, Instr.fill, newRow, Array.range_zero']
        · have hpos : 0 < xs.length := List.length_pos_iff.2 hxs
          have hsz : (z.cells.toList.length : Nat) = z.cells.size := by simp
          let zero : Array Value := (Array.range (xs.length * (k + 1))).map (z.cells[· % z.cells.size]!)
          have hzsize : zero.size = xs.length * (k + 1) := by simp [zero]
          -- the first cells that are overwritten need only be of one cell each
          let junk : List G := List.replicate (xs.length * (k + 1)) ⟨fun _ _ v => v.oneCell' = true, fun h _ _ => h⟩
          have hone : ∀ v ∈ zero.toList, v.oneCell' = true := by
            intro v hv
            simp only [zero, Array.toList_map, List.mem_map] at hv
            obtain ⟨j, _, rfl⟩ := hv
            by_cases hj : j % z.cells.size < z.cells.size
            · rw [getElem!_pos z.cells _ hj]
              exact hzz1 _ (by simp)
            · rw [getElem!_neg z.cells _ hj]; rfl
          have hfj : ∀ (l : List Value), (∀ v ∈ l, v.oneCell' = true) → Fits w M (List.replicate l.length ⟨fun _ _ v => v.oneCell' = true, fun h _ _ => h⟩) l := by
            intro l
            induction l with
            | nil => intro _; trivial
            | cons v l ih => intro h; exact ⟨⟨h v List.mem_cons_self, h v List.mem_cons_self⟩, ih fun v hv => h v (List.mem_cons_of_mem _ hv)⟩
          have hf0 : Fits w M junk zero.toList := by
            have := hfj zero.toList hone
            rw [Array.length_toList, hzsize] at this
            exact this
          have hseq := fillG_seq (Nat.succ_pos k) xs 0 junk hk (by simp [junk])
          simp only [Nat.zero_mul, List.take_zero, List.nil_append] at hseq
          obtain ⟨vout, h1, h2⟩ := fill_fits (vcells := zero) hq hx hf0 hseq
          refine ⟨.slice (some ⟨w.heap.size, 0, none⟩) xs.length xs.length, w.alloc (.cells vout el), ?_, Grow.alloc w _, ?_⟩
          · have hne : ¬ (xs.length * (k + 1) = 0) := by
              intro h
              rcases Nat.mul_eq_zero.1 h with h | h <;> omega
            simp only [execOp, ho]
            rw [Sem.run_bind]
            have : (Instr.buildSlice t xs.length (ps.map fun (i, x) => (i, e x))).run E.P w = .ok (.slice (some ⟨w.heap.size, 0, none⟩) xs.length xs.length) (w.alloc (.cells vout el)) := by
              have h1' : Instr.fill (fun i => some (i * (k + 1), k + 1)) zero (ps.map fun (i, x) => (i, e x)).toList = some vout := by rw [Array.toList_map]; exact h1
              unfold Instr.buildSlice
              simp only [Sem.run_bind, run_underlying ht, Result.andThen_ok, run_sizeOf he]
              rw [if_neg (by omega)]
              simp only [Sem.run_bind, Sem.run_pure, Result.andThen_ok, if_neg hne, zeroValue, typeInfo, run_program, hi, hzz]
              rw [show ((Array.range (xs.length * (k + 1))).map (z.cells[· % z.cells.size]!)) = zero from rfl, h1']
              simp [newRow]
            rw [this]
            rfl
          · obtain ⟨b', off', hr1, hr2, hr3⟩ := ref_new (t := el) hM h2
            have e1 : b' = w.heap.size ∧ off' = 0 := by simp at hr1; exact ⟨hr1.1.symm, hr1.2.symm⟩
            obtain ⟨rfl, rfl⟩ := e1
            have hml : xs.length ≤ maxLen := by
              have : xs.length ≤ xs.length * (k + 1) := Nat.le_mul_of_pos_right _ (Nat.succ_pos k)
              unfold maxLen; omega
            refine ⟨some ⟨w.heap.size, 0, none⟩, xs.length, rfl, Nat.le_refl _, hml, hk, .inr ⟨w.heap.size, 0, rfl, fun h => Nat.lt_irrefl _ (hM _ h), hr3⟩⟩) mem
end
section
variable {E : Env} {w0 : World} {M0 : Nat → Prop} {ops : Array Oper} {o : Oper} {os : List Oper} {cs : List Cls} {s : ASt} {K : ASt → Prop} {r : TV} {t : Nat}
theorem st {d : Nat} (hd : o.dst = some d) (hg : o.guard = none) (he : ∀ mem, Eff E o mem (s.eval E) r) (hn : Nat.blt d s.n = true) (hk : AOps E ops os cs (s.put (some d) r) K) : AOps E ops (o :: os) (.p :: cs) s K :=
 ⟨s.put (some d) r, ⟨fun d' h => by rw [hd] at h; cases h; exact Nat.le_of_ble_eq_true hn, true, r, s.mem, none, by unfold Wanted; rw [hg], fun _ => ⟨rfl, rfl, he⟩, (by intro h; cases h), by rw [hd]; rfl⟩, hk⟩
theorem st_r {d : Nat} (hd : o.dst = some d) (hg : o.guard = none) (he : Eff E o s.mem (s.eval E) r) (hn : Nat.blt d s.n = true) (hk : AOps E ops os cs (s.put (some d) r) K) : AOps E ops (o :: os) (.r :: cs) s K :=
 ⟨s.put (some d) r, ⟨fun d' h => by rw [hd] at h; cases h; exact Nat.le_of_ble_eq_true hn, true, r, s.mem, none, by unfold Wanted; rw [hg], fun _ => ⟨rfl, rfl, he⟩, (by intro h; cases h), by rw [hd]; rfl⟩, hk⟩
theorem st_g {d j e : Nat} {want gb : Bool} (hd : o.dst = some d) (hg : o.guard = some (j, want)) (hj : (ops[j]?).bind (·.dst) = some e) (hb : GB (s.get e) want gb) (he : gb = true → ∀ mem, Eff E o mem (s.eval E) r)
  (hn : Nat.blt d s.n = true) (hk : AOps E ops os cs (s.put (some d) (bif gb then r else undefT)) K) : AOps E ops (o :: os) (.p :: cs) s K :=
 ⟨s.put (some d) (bif gb then r else undefT), ⟨fun d' h => by rw [hd] at h; cases h; exact Nat.le_of_ble_eq_true hn, gb, bif gb then r else undefT, s.mem, none, by unfold Wanted; rw [hg]; exact ⟨e, hj, hb⟩,
  fun h => ⟨rfl, rfl, by rw [h]; exact he h⟩, fun h => ⟨rfl, rfl, by rw [h]; rfl⟩, by rw [hd]; rfl⟩, hk⟩
def refsIn (m : Mem) : TV → Bool
 | .ptr id _ | .eptr id _ _ _ | .osl id _ _ _ | .omap id | .agl _ id _ _ _ | .tgl id _ _ _ _ | .fnp _ _ id | .tsl id _ _ _ => (lookO m id).isSome
 | _ => true
def blkIn (m : Mem) : Blk → Bool
 | .box cs => cs.all (refsIn m)
 | .tbox _ cs => cs.all (refsIn m)
 | _ => true
def closedB (l : List (Nat × TV)) (m : Mem) : Bool := l.all (fun x => refsIn m x.2) && m.all (fun x => blkIn m x.2)
def WeakL (s : ASt) : List (Nat × TV) → Prop
 | [] => True
 | (i, v) :: r => s.get i = v ∧ WeakL s r
def MemL (s : ASt) : Mem → Prop
 | [] => True
 | (i, b) :: r => lookO s.mem i = some b ∧ MemL s r
def stt (n : Nat) (l : List (Nat × TV)) (m : Mem) : ASt := ⟨n, lookT l, m⟩
theorem weakL_get {s : ASt} : ∀ {l : List (Nat × TV)}, WeakL s l → ∀ i, lookT l i = .any ∨ (lookT l i = s.get i ∧ ∃ v, (i, v) ∈ l ∧ lookT l i = v)
 | [], _, _ => .inl rfl
 | (k, v) :: r, h, i => by
  simp only [lookT]
  rcases Bool.eq_false_or_eq_true (Nat.beq k i) with hk | hk
  ·rw [hk];have hki := Nat.eq_of_beq_eq_true hk;subst hki;exact .inr ⟨h.1.symm, v, List.mem_cons_self, rfl⟩
  ·rw [hk]
   rcases weakL_get h.2 i with h1 | ⟨h1, u, h2, h3⟩
   ·exact .inl h1
   ·exact .inr ⟨h1, u, List.mem_cons_of_mem _ h2, h3⟩
theorem memL_look {s : ASt} : ∀ {m : Mem}, MemL s m → ∀ i b, lookO m i = some b → lookO s.mem i = some b
 | [], _, _, _, h => by cases h
 | (k, v) :: r, h, i, b, hb => by
  simp only [lookO] at hb
  rcases Bool.eq_false_or_eq_true (Nat.beq k i) with hk | hk
  ·rw [hk] at hb;have hki := Nat.eq_of_beq_eq_true hk;subst hki
   simp at hb
   rw [← hb]; exact h.1
  ·rw [hk] at hb; exact memL_look h.2 i b hb
theorem TRel.sub {w : World} {M M' : Nat → Prop} {ρ ρ' : Rho} {tv : TV} {v : Value} {m : Mem} (hr : refsIn m tv = true) (h : TRel w M ρ tv v) (hM : ∀ b, M' b → M b) (hρ : ∀ id, (lookO m id).isSome = true → ρ' id = ρ id) : TRel w M' ρ' tv v := by
 cases tv with
 | g x => exact x.mono h (fun _ _ _ => rfl) (fun b _ => hM b)
 | any => trivial
 | ptr id off => obtain ⟨ow, h1, h2⟩ := h; exact ⟨ow, by rw [hρ id hr]; exact h1, h2⟩
 | eptr id k i off => obtain ⟨ow, h1, h2⟩ := h; exact ⟨ow, by rw [hρ id hr]; exact h1, h2⟩
 | omap id => obtain ⟨ow, h1, h2⟩ := h; exact ⟨ow, by rw [hρ id hr]; exact h1, h2⟩
 | fnp f fst id => obtain ⟨ow, h1, h2⟩ := h; exact ⟨ow, by rw [hρ id hr]; exact h1, h2⟩
 | tsl id k hi r =>
  obtain ⟨sv, z, h0, h2, h3⟩ := h;refine ⟨sv, z, h0, r.mono h2 (fun _ _ _ => rfl) (fun b _ => hM b), ?_⟩;rw [hρ id hr]; exact h3
 | agl pre id k hi post =>
  obtain ⟨vs, sv, us, h0, h1, h2, h3⟩ := h;refine ⟨vs, sv, us, h0, h1.mono (fun _ _ _ => rfl) (fun b _ => hM b), h2.mono (fun _ _ _ => rfl) (fun b _ => hM b), ?_⟩;rw [hρ id hr]; exact h3
 | tgl id k hi gp r =>
  obtain ⟨sv, u, z, h0, h1, h2, h3⟩ := h;refine ⟨sv, u, z, h0, ⟨gp.mono h1.1 (fun _ _ _ => rfl) (fun b _ => hM b), h1.2⟩, r.mono h2 (fun _ _ _ => rfl) (fun b _ => hM b), ?_⟩;rw [hρ id hr]; exact h3
 | osl id k lo hi =>
  rcases h with ⟨h1, h2⟩ | ⟨ow, h1, h2⟩
  ·exact .inl ⟨by rw [hρ id hr]; exact h1, h2⟩
  ·exact .inr ⟨ow, by rw [hρ id hr]; exact h1, h2⟩
theorem TFits.sub {w : World} {M M' : Nat → Prop} {ρ ρ' : Rho} {m : Mem} (hM : ∀ b, M' b → M b) (hρ : ∀ id, (lookO m id).isSome = true → ρ' id = ρ id) : ∀ {cs : List TV} {vs : List Value}, (∀ c ∈ cs, refsIn m c = true) → TFits w M ρ cs vs → TFits w M' ρ' cs vs
 | [], [], _, h => h
 | c :: _, _ :: _, hn, h => ⟨⟨h.1.1.sub (hn c List.mem_cons_self) hM hρ, h.1.2⟩, TFits.sub hM hρ (fun c hc => hn c (List.mem_cons_of_mem _ hc)) h.2⟩
 | [], _ :: _, _, h => h.elim
 | _ :: _, [], _, h => h.elim
def bowIn (E : Env) (m : Mem) : Bool := E.bow.all fun p => (lookO m p.1).isSome
theorem ARel.weak {s : ASt} {l : List (Nat × TV)} {m : Mem} (h1 : WeakL s l) (h2 : MemL s m) (h3 : closedB l m = true) (hbw : bowIn E m = true) {a : Act} {w : World} (h : ARel E w0 M0 s a w) : ARel E w0 M0 (stt s.n l m) a w := by
 obtain ⟨ρ, hm, hmk, ht⟩ := h.ex;simp only [closedB, Bool.and_eq_true, List.all_eq_true] at h3
 let ρ' : Rho := fun id => if (lookO m id).isSome = true then ρ id else none
 have hρ : ∀ id, (lookO m id).isSome = true → ρ' id = ρ id := fun id hi => by simp only [ρ', if_pos hi]
 have hρ' : ∀ id x, ρ' id = some x → ρ id = some x ∧ (lookO m id).isSome = true := by
  intro id x hx;simp only [ρ'] at hx
  split at hx
  ·rename_i hi; exact ⟨hx, hi⟩
  ·cases hx
 have hM : ∀ b, owned M0 ρ' b → owned M0 ρ b := by
  rintro b (hb | ⟨id, o, ho, rfl⟩)
  ·exact .inl hb
  ·exact .inr ⟨id, o, (hρ' id _ ho).1, rfl⟩
 refine ⟨h.defers, h.size, ρ', ⟨hm.below, hm.m0, ?_, ?_, ?_, ?_, ?_, hm.lentM, ?_⟩, hmk.sub hM, ?_⟩
 ·intro g vs hg;have := hm.glob g vs hg;exact ⟨⟨fun hb => this.1.1 (hM _ hb), this.1.2⟩, this.2.mono (fun _ _ _ => rfl) (fun b _ => hM b) this.1.1⟩
 ·intro id x hx;have := (hρ' id x hx).2
  cases hl : lookO m id with
  | none => rw [hl] at this; cases this
  | some b => exact ⟨b, hl⟩
 ·exact fun id ow ho => hm.fresh id ow (hρ' id _ ho).1
 ·exact fun id id' ow ow' ho ho' => hm.inj id id' ow ow' (hρ' id _ ho).1 (hρ' id' _ ho').1
 ·intro id x hx;rw [hρ id (List.all_eq_true.1 hbw (id, x) (lookO_mem _ hx))];exact hm.keep id x hx
 ·intro id blk hb;have hb0 : lookO m id = some blk := hb
  have hi : (lookO m id).isSome = true := by rw [hb0]; rfl
  have := hm.blk id blk (memL_look h2 id blk hb0)
  cases blk with
  | box cs =>
   obtain ⟨ow, e, vs, g1, g2, g3, g4⟩ := this;have hcl := h3.2 (id, .box cs) (lookO_mem _ hb0);exact ⟨ow, e, vs, by rw [hρ id hi]; exact g1, g2, g3, g4.sub hM hρ (by simpa [blkIn] using hcl)⟩
  | arr e k xs =>
   rcases this with ⟨g1, g2⟩ | ⟨ow, vs, g1, g2, g3, g4, g5, g6, g7⟩
   ·exact .inl ⟨by rw [hρ id hi]; exact g1, g2⟩
   ·exact .inr ⟨ow, vs, by rw [hρ id hi]; exact g1, g2, g3, g4, g5, g6, g7.mono (fun _ _ _ => rfl) (fun b _ => hM b)⟩
  | mp es =>
   obtain ⟨ow, en, cl, g1, g2, g3, g4⟩ := this;exact ⟨ow, en, cl, by rw [hρ id hi]; exact g1, g2, g3.mono (fun _ _ _ => rfl) (fun b _ => hM b), g4⟩
  | obj o =>
   obtain ⟨ow, g1, g2, g3⟩ := this;exact ⟨ow, by rw [hρ id hi]; exact g1, g2, g3⟩
  | mit es seen =>
   obtain ⟨ow, g1, g2, g3⟩ := this;exact ⟨ow, by rw [hρ id hi]; exact g1, g2, g3.mono rfl (fun _ _ _ => rfl) (fun b _ => hM b)⟩
  | tbox T cs =>
   obtain ⟨ow, vs, g1, g2, g3, g4⟩ := this;have hcl := h3.2 (id, .tbox T cs) (lookO_mem _ hb0);exact ⟨ow, vs, by rw [hρ id hi]; exact g1, g2, g3, g4.sub hM hρ (by simpa [blkIn] using hcl)⟩
  | buf e bs =>
   rcases this with ⟨g1, g2⟩ | ⟨ow, cur, g1, g2⟩
   ·exact .inl ⟨by rw [hρ id hi]; exact g1, g2⟩
   ·exact .inr ⟨ow, cur, by rw [hρ id hi]; exact g1, g2⟩
  | gone => trivial
 ·intro i;show TRel _ _ _ (lookT l i) _
  rcases weakL_get h1 i with h4 | ⟨h4, v, h5, h6⟩
  ·rw [h4]; trivial
  ·rw [h4];refine (ht i).sub (m := m) ?_ hM hρ;rw [← h4, h6];exact h3.1 (i, v) h5
theorem aw_weak {c : Code} {Q : Exit → ASt → Prop} {s : ASt} {l : List (Nat × TV)} {m : Mem} (h1 : WeakL s l) (h2 : MemL s m) (h3 : closedB l m = true) (h : AWp E w0 M0 c Q (stt s.n l m)) (hbw : bowIn E m = true := by rfl) : AWp E w0 M0 c Q s :=
 fun a w ha => h a w (ha.weak h1 h2 h3 hbw)
def Goes {γ : Type} (S : γ → List (Nat × TV) × Mem) (P : γ → Prop) (n : Nat) (ok : γ → Prop) (s : ASt) : Prop := s.n = n ∧ ∃ g, WeakL s (S g).1 ∧ MemL s (S g).2 ∧ closedB (S g).1 (S g).2 = true ∧ P g ∧ ok g
theorem aw_loop_g {γ : Type} {c : Code} {Q : Exit → ASt → Prop} {s : ASt} (S : γ → List (Nat × TV) × Mem) (P : γ → Prop) (μ : γ → Nat) (h0 : Goes S P s.n (fun _ => True) s)
  (round : ∀ g, P g → AWp E w0 M0 c (athen (Goes S P s.n (fun g' => μ g' < μ g)) Q) (stt s.n (S g).1 (S g).2)) (hbw : ∀ g, bowIn E (S g).2 = true := by intro _; rfl) : AWp E w0 M0 (.loop c) Q s := by
 intro a w ha;obtain ⟨_, g0, h1, h2, h3, h4, _⟩ := h0;have ha' := ha.weak h1 h2 h3 (hbw _);refine wpIn_loop_ghost (fun n a w => ∃ g, μ g = n ∧ P g ∧ ARel E w0 M0 (stt s.n (S g).1 (S g).2) a w) (μ g0) ⟨g0, rfl, h4, ha'⟩ ?_;rintro n a w ⟨g, rfl, hP, hg⟩;refine wpIn_mono (round g hP a w hg) ?_;rintro e a' w' ⟨s', hs', hq⟩
 cases e with
 | normal =>
  obtain ⟨k0, g', k1, k2, k3, k4, k5⟩ := hq;refine ⟨μ g', k5, g', rfl, k4, ?_⟩;have := hs'.weak k1 k2 k3 (hbw _);rw [k0] at this;exact this
 | _ => exact ⟨s', hs', hq⟩
theorem st_nil (h : K s) : AOps E ops [] [] s K := h
theorem gd {c : Bool} {x y z : TV} (h : c = true) (e : z = bif c then x else y) : z = x := by rw [e, h]; rfl
theorem gd2 {c d : Bool} {x y z : TV} (h : c = true) (e : z = bif (c && d) then x else y) : z = bif d then x else y := by rw [e, h, Bool.true_and]
end
section
variable {E : Env} {w0 : World} {M0 : Nat → Prop}
def rhoSet (ρ : Rho) (id : Nat) (x : Option Own) : Rho := fun i => if i = id then some x else ρ i
theorem rhoSet_same (ρ : Rho) (id : Nat) (x : Option Own) : rhoSet ρ id x id = some x := by simp [rhoSet]
structure Diff (ρ : Rho) (id : Nat) (w w' : World) : Prop where
 os : w'.os = w.os
 tape : w'.tape = w.tape
 output : w'.output = w.output
 size : w.heap.size ≤ w'.heap.size
 heap : ∀ b, b < w.heap.size → (∀ ow, ρ id = some (some ow) → b ≠ ow.b) → w'.heap[b]? = w.heap[b]?
theorem mrel_upd {ρ : Rho} {mem : Mem} {w w' : World} {id : Nat} {x : Option Own} {blk' : Blk} (kill : Option Nat) (hm : MRel E w0 M0 ρ mem w) (hd : Diff ρ id w w')
  (hnew : ∀ o, x = some o → (w.heap.size ≤ o.b ∨ ∃ ow, ρ id = some (some ow) ∧ ow.b = o.b) ∧ o.b < w'.heap.size) (hk : kill = some id ∨ (kill = none ∧ (ρ id = none ∨ ρ id = some x)))
  (hrefs : ∀ i blk, lookO mem i = some blk → i ≠ id → blk.noref kill = true) (hbw : kill = none ∨ lookO E.bow id = none) (hb : BRel w' (owned M0 (rhoSet ρ id x)) (rhoSet ρ id x) id blk') :
  MRel E w0 M0 (rhoSet ρ id x) ((id, blk') :: mem) w' ∧ Kept M0 kill ρ w (rhoSet ρ id x) w' := by
 have hlt := hm.lt
 have hM : ∀ b, b < w.heap.size → owned M0 (rhoSet ρ id x) b → owned M0 ρ b := by
  rintro b hb (h | ⟨i, o, h, rfl⟩)
  ·exact .inl h
  ·by_cases hi : i = id
   ·subst hi;rw [rhoSet_same] at h;simp only [Option.some.injEq] at h
    rcases (hnew o h).1 with h1 | ⟨ow, h1, h2⟩
    ·omega
    ·exact .inr ⟨i, ow, h1, h2⟩
   ·exact .inr ⟨i, o, by simpa [rhoSet, hi] using h, rfl⟩
 have hh : ∀ b, b < w.heap.size → ¬ owned M0 ρ b → w'.heap[b]? = w.heap[b]? := fun b hb hno => hd.heap b hb fun ow ho e => hno (.inr ⟨id, ow, ho, e.symm⟩)
 have hρ : ∀ i, some i ≠ kill → ρ i ≠ none → rhoSet ρ id x i = ρ i := by
  intro i h1 h2
  by_cases hi : i = id
  ·subst hi;rw [rhoSet_same]
   rcases hk with h | ⟨_, h | h⟩
   ·exact absurd h.symm h1
   ·exact absurd h h2
   ·exact h.symm
  ·simp [rhoSet, hi]
 have hnotglob : ∀ g, ¬ owned M0 ρ g → g < w.heap.size → ¬ owned M0 (rhoSet ρ id x) g := fun g h1 h2 h3 => h1 (hM g h2 h3);refine ⟨⟨?_, hm.m0, ?_, ?_, ?_, ?_, ?_, hm.lentM, ?_⟩, fun tv v hn hv => hv.mono kill hn hh hM hρ⟩
 ·refine ⟨hd.os.trans hm.below.os, hd.tape.trans hm.below.tape, hd.output.trans hm.below.output, Nat.le_trans hm.below.size hd.size, fun k hk hl => ?_⟩;refine (hd.heap k (Nat.lt_of_lt_of_le hk hm.below.size) fun ow ho e => ?_).trans (hm.below.block k hk hl)
  rcases (hm.fresh id ow ho).1 with h | h
  ·omega
  ·exact hl (e ▸ h)
 ·intro g vs hg;obtain ⟨h1, h2⟩ := hm.glob g vs hg;exact ⟨⟨hnotglob g h1.1 h1.2, Nat.lt_of_lt_of_le h1.2 hd.size⟩, h2.mono hh hM h1.1⟩
 ·intro i y hi
  by_cases h : i = id
  ·subst h; exact ⟨blk', by simp [lookO]⟩
  ·obtain ⟨b, hb⟩ := hm.dom i y (by simpa [rhoSet, h] using hi);refine ⟨b, ?_⟩
   have : Nat.beq id i = false := by rw [← Bool.not_eq_true]; intro e; exact h (Nat.eq_of_beq_eq_true e).symm
   simp only [lookO, this];exact hb
 ·intro i ow hi
  by_cases h : i = id
  ·subst h;rw [rhoSet_same] at hi;simp only [Option.some.injEq] at hi;obtain ⟨h1, h2⟩ := hnew ow hi;refine ⟨?_, h2⟩
   rcases h1 with h1 | ⟨o, h1, h3⟩
   ·exact .inl (Nat.le_trans hm.below.size h1)
   ·rw [← h3]; exact (hm.fresh i o h1).1
  ·have := hm.fresh i ow (by simpa [rhoSet, h] using hi);exact ⟨this.1, Nat.lt_of_lt_of_le this.2 hd.size⟩
 ·intro i j oi oj hi hj he
  by_cases h1 : i = id
  ·by_cases h2 : j = id
   ·rw [h1, h2]
   ·exfalso
    subst h1;rw [rhoSet_same] at hi;simp only [Option.some.injEq] at hi
    have hj' : ρ j = some (some oj) := by simpa [rhoSet, h2] using hj
    rcases (hnew oi hi).1 with h3 | ⟨o, h3, h4⟩
    ·have := (hm.fresh j oj hj').2; omega
    ·exact h2 (hm.inj j i oj o hj' h3 (he.symm.trans h4.symm))
  ·by_cases h2 : j = id
   ·exfalso
    subst h2;rw [rhoSet_same] at hj;simp only [Option.some.injEq] at hj
    have hi' : ρ i = some (some oi) := by simpa [rhoSet, h1] using hi
    rcases (hnew oj hj).1 with h3 | ⟨o, h3, h4⟩
    ·have := (hm.fresh i oi hi').2; omega
    ·exact h1 (hm.inj i j oi o hi' h3 (he.trans h4.symm))
   ·exact hm.inj i j oi oj (by simpa [rhoSet, h1] using hi) (by simpa [rhoSet, h2] using hj) he
 ·intro i y hy;have hy' := hm.keep i y hy
  by_cases h : i = id
  ·subst h;rw [rhoSet_same]
   rcases hk with h3 | ⟨_, h3 | h3⟩
   ·rcases hbw with h4 | h4
    ·rw [h3] at h4; cases h4
    ·rw [h4] at hy; cases hy
   ·rw [h3] at hy'; cases hy'
   ·rw [← h3]; exact hy'
  ·simpa [rhoSet, h] using hy'
 ·intro i blk hi
  by_cases h : i = id
  ·subst h
   simp [lookO] at hi
   subst hi;exact hb
  ·have hne : Nat.beq id i = false := by rw [← Bool.not_eq_true]; intro e; exact h (Nat.eq_of_beq_eq_true e).symm
   simp only [lookO, hne, cond_false] at hi
   have hki : some i ≠ kill := by
    rcases hk with h3 | ⟨h3, _⟩
    ·rw [h3]; simpa using h
    ·rw [h3]; simp
   refine (hm.blk i blk hi).mono kill hki (hrefs i blk hi h) (fun ow ho => ?_) hh hM hρ;exact hd.heap ow.b (hm.fresh i ow ho).2 fun o ho' e => h (hm.inj i id ow o ho ho' e)
end
section
variable {E : Env} {w0 : World} {M0 : Nat → Prop}
class OneT (tv : TV) : Prop where
 one : ∀ {w M ρ v}, TRel w M ρ tv v → v.oneCell' = true
instance (x : G) [One x] : OneT (.g x) := ⟨fun {w M _ v} h => One.one (M := M) (w := w) (show x.p w M v from h)⟩
instance (id off : Nat) : OneT (.ptr id off) := ⟨fun ⟨_, _, h⟩ => by rw [h]; rfl⟩
instance (id k i off : Nat) : OneT (.eptr id k i off) := ⟨fun ⟨_, _, h⟩ => by rw [h]; rfl⟩
instance (id : Nat) : OneT (.omap id) := ⟨fun ⟨_, _, h⟩ => by rw [h]; rfl⟩
instance (f : FuncId) (fst : Bool) (id : Nat) : OneT (.fnp f fst id) := ⟨fun ⟨_, _, h⟩ => by rw [h]; rfl⟩
instance (id k lo hi : Nat) : OneT (.osl id k lo hi) := ⟨fun h => by rcases h with ⟨_, _, _, h⟩ | ⟨_, _, _, _, _, h, _⟩ <;> rw [h] <;> rfl⟩
class PartT (tv : TV) (cs : outParam (List TV)) : Prop where
 part : ∀ {w M ρ v}, TRel w M ρ tv v → TFits w M ρ cs v.cells.toList
theorem tfits_of_fits {w : World} {M : Nat → Prop} {ρ : Rho} : ∀ {cs : List G} {vs : List Value}, Fits w M cs vs → TFits w M ρ (cs.map TV.g) vs
 | [], [], _ => trivial
 | _ :: _, _ :: _, h => ⟨h.1, tfits_of_fits h.2⟩
 | [], _ :: _, h => h.elim
 | _ :: _, [], h => h.elim
theorem fits_of_tfits {w : World} {M : Nat → Prop} {ρ : Rho} : ∀ {cs : List G} {vs : List Value}, TFits w M ρ (cs.map TV.g) vs → Fits w M cs vs
 | [], [], _ => trivial
 | _ :: _, _ :: _, h => ⟨h.1, fits_of_tfits h.2⟩
 | [], _ :: _, h => h.elim
 | _ :: _, [], h => h.elim
instance (cs : List G) : PartT (.g (.agg cs)) (cs.map TV.g) := ⟨fun ⟨vs, h1, h2⟩ => by rw [h1]; simpa [Value.cells] using tfits_of_fits h2⟩
instance (priority := low) (tv : TV) [OneT tv] : PartT tv [tv] := ⟨fun {w M ρ v} h => by
 have h1 := OneT.one h;rw [cells_one h1]
 exact ⟨⟨h, h1⟩, trivial⟩⟩
section
variable {w : World} {M : Nat → Prop} {ρ : Rho}
theorem TFits.length : ∀ {xs : List TV} {vs : List Value}, TFits w M ρ xs vs → vs.length = xs.length
 | [], [], _ => rfl
 | _ :: _, _ :: _, h => by simp [TFits.length h.2]
 | [], _ :: _, h => h.elim
 | _ :: _, [], h => h.elim
theorem TFits.one : ∀ {xs : List TV} {vs : List Value}, TFits w M ρ xs vs → ∀ v ∈ vs, v.oneCell' = true
 | [], [], _, v, hv => by cases hv
 | _ :: _, _ :: _, h, v, hv => by
  rcases List.mem_cons.1 hv with rfl | hv
  ·exact h.1.2
  ·exact TFits.one h.2 v hv
 | [], _ :: _, h, _, _ => h.elim
 | _ :: _, [], h, _, _ => h.elim
theorem TFits.append : ∀ {a : List TV} {va : List Value} {b : List TV} {vb : List Value}, TFits w M ρ a va → TFits w M ρ b vb → TFits w M ρ (a ++ b) (va ++ vb)
 | [], [], _, _, _, h2 => h2
 | _ :: _, _ :: _, _, _, h1, h2 => ⟨h1.1, TFits.append h1.2 h2⟩
 | [], _ :: _, _, _, h, _ => h.elim
 | _ :: _, [], _, _, h, _ => h.elim
theorem TFits.take : ∀ (n : Nat) {a : List TV} {va : List Value}, TFits w M ρ a va → TFits w M ρ (a.take n) (va.take n)
 | 0, _, _, _ => by simp [TFits]
 | n + 1, [], [], _ => by simp [TFits]
 | n + 1, _ :: _, _ :: _, h => ⟨h.1, TFits.take n h.2⟩
 | _ + 1, [], _ :: _, h => h.elim
 | _ + 1, _ :: _, [], h => h.elim
theorem TFits.drop : ∀ (n : Nat) {a : List TV} {va : List Value}, TFits w M ρ a va → TFits w M ρ (a.drop n) (va.drop n)
 | 0, _, _, h => h
 | n + 1, [], [], _ => by simp [TFits]
 | n + 1, _ :: _, _ :: _, h => TFits.drop n h.2
 | _ + 1, [], _ :: _, h => h.elim
 | _ + 1, _ :: _, [], h => h.elim
theorem TFits.get : ∀ (i : Nat) {a : List TV} {va : List Value} {x : TV}, TFits w M ρ a va → a[i]? = some x → ∃ v, va[i]? = some v ∧ TRel w M ρ x v ∧ v.oneCell' = true
 | 0, _ :: _, v :: _, x, h, hx => ⟨v, rfl, by simp at hx; subst hx; exact h.1.1, h.1.2⟩
 | i + 1, _ :: _, _ :: _, x, h, hx => by simpa using TFits.get i h.2 (by simpa using hx)
 | _, [], _, _, _, hx => by simp at hx
 | _, _ :: _, [], _, h, _ => h.elim
theorem TFits.setAt {cells cs : List TV} {vcells vs : List Value} (off : Nat) (h : TFits w M ρ cells vcells) (k : TFits w M ρ cs vs) : TFits w M ρ (Sim.setAt cells off cs) (Sim.setAt vcells off vs) := by
 unfold Sim.setAt;rw [k.length];exact ((h.take off).append k).append (h.drop _)
end
theorem run_storeCells {P : Program} (g o0 : Nat) (e : TypeId) : ∀ (vs : List Value) (i : Nat) (cur : Array Value) (w : World), w.heap[g]? = some (.cells cur e (0, 0)) → o0 + i + vs.length ≤ cur.size → (∀ v ∈ vs, v.oneCell' = true) →
  ∃ w' : World, ∃ cur' : Array Value, (storeCells ⟨g, o0, none⟩ vs i).run P w = .ok () w' ∧ w'.heap[g]? = some (.cells cur' e (0, 0)) ∧ cur'.toList = setAt cur.toList (o0 + i) vs ∧ (∀ b, b ≠ g → w'.heap[b]? = w.heap[b]?) ∧ w'.heap.size = w.heap.size ∧
   w'.os = w.os ∧ w'.tape = w.tape ∧ w'.output = w.output
 | [], i, cur, w, hg, _, _ => ⟨w, cur, by simp [storeCells], hg, by simp [setAt], fun _ _ => rfl, rfl, rfl, rfl, rfl⟩
 | v :: vs, i, cur, w, hg, hl, h1 => by
  simp only [List.length_cons] at hl;have hcell : w.cell? ⟨g, o0 + i, none⟩ = cur[o0 + i]? := cell_of_row w g _ cur e _ hg
  have hlt : o0 + i < cur.size := by omega
  have hsome : w.cell? ⟨g, o0 + i, none⟩ = some cur[o0 + i] := by rw [hcell]; simp [hlt]
  have hst : (store ((⟨g, o0, none⟩ : Addr).add i) v).run P w = .ok () (w.setCell ⟨g, o0 + i, none⟩ v) := by
   rw [Addr.add_lit, run_store P w _ v _ (h1 v List.mem_cons_self), hsome];simp only [frozen_of_row w g _ cur e hg, Bool.false_eq_true, if_false]
  have hg' : (w.setCell ⟨g, o0 + i, none⟩ v).heap[g]? = some (.cells (cur.setIfInBounds (o0 + i) v) e (0, 0)) := heap_setCell_same w g _ cur e v hg;obtain ⟨w', cur', h2, h3, h4, h5, h6, h7, h8, h9⟩ := run_storeCells (P := P) g o0 e vs (i + 1) _ _ hg' (by simp; omega) (fun u hu => h1 u (List.mem_cons_of_mem _ hu));refine ⟨w', cur', ?_, h3, ?_, ?_, ?_, h7, h8, h9⟩
  ·simp only [storeCells, Sem.run_bind, hst, Result.andThen_ok, h2]
  ·rw [h4];simp only [setAt, Array.toList_setIfInBounds, List.length_cons]
   have hlt' : o0 + i < cur.toList.length := by simpa using hlt
   rw [show o0 + (i + 1) = o0 + i + 1 by omega, List.take_set, List.take_succ_eq_append_getElem hlt', List.set_append_right _ _ (by simp; omega)];rw [show (o0 + i - (List.take (o0 + i) cur.toList).length) = 0 by simp; omega];simp only [List.set_cons_zero, List.append_assoc, List.cons_append, List.nil_append]
   congr 3
   rw [List.drop_set_of_lt (by omega)]
   congr 1
   omega
  ·intro b hb;rw [h5 b hb];exact heap_setCell_other w _ b v hb
  ·rw [h6, World.size_setCell]
theorem run_storeAt {P : Program} {t : TypeId} {k : Nat} {b : Bool} (ht : tyK P t = some (k, b)) {g o0 : Nat} {e : TypeId} {cur : Array Value} {w : World} {v : Value} (hg : w.heap[g]? = some (.cells cur e (0, 0)))
  (hk : v.cells.toList.length = k) (hl : o0 + k ≤ cur.size) (h1 : ∀ u ∈ v.cells.toList, u.oneCell' = true) :
  ∃ w' : World, ∃ cur' : Array Value, (Instr.storeAt t (.pointer (some ⟨g, o0, none⟩)) v).run P w = .ok () w' ∧ w'.heap[g]? = some (.cells cur' e (0, 0)) ∧ cur'.toList = setAt cur.toList o0 v.cells.toList ∧ (∀ b, b ≠ g → w'.heap[b]? = w.heap[b]?) ∧ w'.heap.size = w.heap.size ∧
   w'.os = w.os ∧ w'.tape = w.tape ∧ w'.output = w.output := by
 obtain ⟨w', cur', h2, h3⟩ := run_storeCells (P := P) g o0 e v.cells.toList 0 cur w hg (by omega) h1;refine ⟨w', cur', ?_, h3⟩
 have hk' : v.cells.size = k := by simpa using hk
 simp [Instr.storeAt, Instr.sureAddr, storeVar, run_sizeOf ht, hk', h2]
theorem run_alloc {P : Program} {t : TypeId} {zs : List Value} (hz : zeroK P t = some zs) (w : World) : (Instr.alloc t true (.tuple #[])).run P w = .ok (.pointer (some ⟨w.heap.size, 0, none⟩)) (w.alloc (.cells zs.toArray t)) := by
 unfold zeroK at hz
 cases hi : P.info? t with
 | none => simp [hi] at hz
 | some it =>
  cases hzz : it.zero with
  | none => simp [hi, hzz] at hz
  | some z =>
   simp [hi, hzz] at hz
   simp [Instr.alloc, zeroValue, typeInfo, hi, hzz, newVar, newRow, ← hz]
theorem diff_alloc (ρ : Rho) (id : Nat) (w : World) (o : Obj) : Diff ρ id w (w.alloc o) :=
 ⟨rfl, rfl, rfl, by simp, fun b hb _ => RowKit.Below.heap_alloc w o b hb⟩
theorem rho_none {ρ : Rho} {mem : Mem} {w : World} {id : Nat} (hm : MRel E w0 M0 ρ mem w) (h : lookO mem id = none) : ρ id = none := by
 cases hr : ρ id with
 | none => rfl
 | some x => obtain ⟨b, hb⟩ := hm.dom id x hr; rw [h] at hb; cases hb
theorem noref_none (b : Blk) : b.noref none = true := by cases b <;> simp [Blk.noref, Sim.noref]
theorem upon_new {ρ : Rho} {mem : Mem} {w : World} {id : Nat} {cs : List TV} {vs : Array Value} {t : TypeId} (hm : MRel E w0 M0 ρ mem w) (hf : lookO mem id = none) (hc : TFits w (owned M0 ρ) ρ cs vs.toList) :
  UponW E w0 M0 ρ w ((id, .box cs) :: mem) (.ptr id 0) none (.ok (.value (.pointer (some ⟨w.heap.size, 0, none⟩))) (w.alloc (.cells vs t))) := by
 have hr := rho_none hm hf;have hg := Grow.alloc w (.cells vs t)
 have hM : ∀ b, b < w.heap.size → owned M0 (rhoSet ρ id (some ⟨w.heap.size, 0, 0⟩)) b → owned M0 ρ b := by
  rintro b hb (h | ⟨i, o, h, rfl⟩)
  ·exact .inl h
  ·by_cases hi : i = id
   ·subst hi; rw [rhoSet_same] at h; cases h; simp at hb
   ·exact .inr ⟨i, o, by simpa [rhoSet, hi] using h, rfl⟩
 have hρ : ∀ i, some i ≠ none → ρ i ≠ none → rhoSet ρ id (some ⟨w.heap.size, 0, 0⟩) i = ρ i := by
  intro i _ h
  by_cases hi : i = id
  ·subst hi; exact absurd hr h
  ·simp [rhoSet, hi]
 obtain ⟨h1, h2⟩ := mrel_upd (id := id) (x := some ⟨w.heap.size, 0, 0⟩) (blk' := .box cs) none hm (diff_alloc ρ id w (.cells vs t)) (fun o ho => by cases ho; exact ⟨.inl (Nat.le_refl _), by simp⟩) (.inr ⟨rfl, .inl hr⟩) (fun _ b _ _ => noref_none b) (.inl rfl)
  ⟨⟨w.heap.size, 0, 0⟩, t, vs.toList, rhoSet_same _ _ _, rfl, by simpa using heap_alloc_new w (.cells vs t), TFits.mono hg.hh hM none hρ (fun c _ => by cases c <;> rfl) hc⟩
 exact ⟨_, h1, h2, ⟨w.heap.size, 0, 0⟩, rhoSet_same _ _ _, rfl⟩
theorem eff_alloc {o : Oper} {mem : Mem} {ev : Operand → TV} {t : TypeId} {zs : List Value} (id : Nat) (ho : o.op = .alloc t) (hz : zeroK E.P t = some zs) (hz1 : zs.all Value.oneCell' = true) (hf : lookO mem id = none) :
  EffW E o mem ev (.ptr id 0) ((id, .box ((zs.map G.lit).map TV.g)) :: mem) none := by
 intro w0 M0 ρ w e hm _;have hc : TFits w (owned M0 ρ) ρ ((zs.map G.lit).map TV.g) zs.toArray.toList := tfits_of_fits (fits_lits (by simpa using hz1));have := upon_new (t := t) hm hf hc
 simpa [execOp, ho, run_alloc hz] using this
theorem eff_boxO {o : Oper} {mem : Mem} {ev : Operand → TV} {t : TypeId} {x : Operand} {tv : TV} {cs : List TV} (id : Nat) (ho : o.op = .box t x) (hx : ev x = tv) [PartT tv cs] (hf : lookO mem id = none) :
  EffW E o mem ev (.ptr id 0) ((id, .box cs) :: mem) none := by
 intro w0 M0 ρ w e hm he;have h1 := he x (by rw [ho]; simp [Op.operands]);rw [hx] at h1;have := upon_new (t := t) hm hf (PartT.part h1)
 simpa [execOp, ho, run_box] using this
theorem eff_fieldO {o : Oper} {ev : Operand → TV} {s : TypeId} {x : Operand} {i off k id p : Nat} {b : Bool} (ho : o.op = .fieldAddr s x i) (hf : fieldK E.P s i = some (off, k + 1, b)) (hx : ev x = .ptr id p) (mem : Mem) : Eff E o mem ev (.ptr id (p + off)) :=
 eff_same (fun w M ρ e he => by
  have h1 := he x (by rw [ho]; simp [Op.operands]);rw [hx] at h1;obtain ⟨ow, h2, h3⟩ := h1;refine ⟨.pointer (some ⟨ow.b, ow.o + p + off, none⟩), ?_, ow, h2, by rw [Nat.add_assoc]⟩
  simp [execOp, ho, h3, run_fieldAt hf (Nat.succ_ne_zero k)]) mem
theorem eff_fieldE {o : Oper} {ev : Operand → TV} {s : TypeId} {x : Operand} {i off k id n j p : Nat} {b : Bool} (ho : o.op = .fieldAddr s x i) (hf : fieldK E.P s i = some (off, k + 1, b)) (hx : ev x = .eptr id n j p) (mem : Mem) : Eff E o mem ev (.eptr id n j (p + off)) :=
 eff_same (fun w M ρ e he => by
  have h1 := he x (by rw [ho]; simp [Op.operands]);rw [hx] at h1;obtain ⟨ow, h2, h3⟩ := h1;refine ⟨.pointer (some ⟨ow.b, ow.o + j * n + p + off, none⟩), ?_, ow, h2, by rw [Nat.add_assoc]⟩
  simp [execOp, ho, h3, run_fieldAt hf (Nat.succ_ne_zero k)]) mem
theorem eff_nilO {o : Oper} {ev : Operand → TV} {x : Operand} {id p : Nat} (ho : o.op = .nilCheck x) (hx : ev x = .ptr id p) (mem : Mem) : Eff E o mem ev (.ptr id p) :=
 eff_same (fun w M ρ e he => by
  have h1 := he x (by rw [ho]; simp [Op.operands]);rw [hx] at h1;obtain ⟨ow, h2, h3⟩ := h1
  exact ⟨e x, by simp [execOp, ho, h3], ow, h2, h3⟩) mem
def ungs : List TV → Option (List G)
 | [] => some []
 | .g x :: r => match ungs r with
  | some l => some (x :: l)
  | none => none
 | _ :: _ => none
theorem ungs_eq : ∀ {l : List TV} {xs : List G}, ungs l = some xs → l = xs.map TV.g
 | [], xs, h => by simp only [ungs, Option.some.injEq] at h; subst h; rfl
 | .g x :: r, xs, h => by
  simp only [ungs] at h
  split at h
  ·rename_i l hl
   simp only [Option.some.injEq] at h;subst h;rw [List.map_cons, ungs_eq hl]
  ·cases h
 | .ptr .. :: _, _, h => by simp [ungs] at h
 | .eptr .. :: _, _, h => by simp [ungs] at h
 | .osl .. :: _, _, h => by simp [ungs] at h
 | .omap .. :: _, _, h => by simp [ungs] at h
 | .agl .. :: _, _, h => by simp [ungs] at h
 | .tgl .. :: _, _, h => by simp [ungs] at h
 | .fnp .. :: _, _, h => by simp [ungs] at h
 | .tsl .. :: _, _, h => by simp [ungs] at h
 | .any :: _, _, h => by simp [ungs] at h
theorem eff_loadO {o : Oper} {mem : Mem} {ev : Operand → TV} {t : TypeId} {x : Operand} {k id p : Nat} {cs : List TV} {tv : TV} (ho : o.op = .load t x) (ht : tyK E.P t = some (k, false)) (hx : ev x = .ptr id p) (hb : lookO mem id = some (.box cs)) (hc : cs[p]? = some tv) : Eff E o mem ev tv := by
 intro w0 M0 ρ w e hm he;have h1 := he x (by rw [ho]; simp [Op.operands]);rw [hx] at h1;obtain ⟨ow, h2, h3⟩ := h1;obtain ⟨ow', ty, vs, g1, g2, g3, g4⟩ := hm.blk id _ hb
 have : ow' = ow := by rw [h2] at g1; simpa using g1.symm
 subst this;obtain ⟨v, h4, h5, _⟩ := TFits.get p g4 hc
 have hcell : w.cell? ⟨ow'.b, ow'.o + p, none⟩ = some v := by rw [cell_of_row w _ _ _ _ _ g3, g2]; simpa using h4
 have : (execOp e o).run E.P w = .ok (.value v) w := by simp [execOp, ho, h3, Instr.loadAt, Instr.sureAddr, run_loadVar_one ht hcell]
 rw [this];exact ⟨Grow.refl w, h5⟩
theorem eff_loadOA {o : Oper} {mem : Mem} {ev : Operand → TV} {t : TypeId} {x : Operand} {k id p : Nat} {cs : List TV} {ds : List G} (ho : o.op = .load t x) (ht : tyK E.P t = some (k, true)) (hx : ev x = .ptr id p) (hb : lookO mem id = some (.box cs))
  (hc : ungs ((cs.drop p).take k) = some ds) (hl : ds.length = k) : Eff E o mem ev (.g (.agg ds)) := by
 have hc := ungs_eq hc;intro w0 M0 ρ w e hm he;have h1 := he x (by rw [ho]; simp [Op.operands]);rw [hx] at h1;obtain ⟨ow, h2, h3⟩ := h1;obtain ⟨ow', ty, vs, g1, g2, g3, g4⟩ := hm.blk id _ hb
 have : ow' = ow := by rw [h2] at g1; simpa using g1.symm
 subst this;have h4 := (g4.drop p).take k;rw [hc] at h4;have h5 := fits_of_tfits h4
 have hcell : ∀ j v, ((vs.drop p).take k)[j]? = some v → w.cell? ⟨ow'.b, ow'.o + p + j, none⟩ = some v := by
  intro j v hj;rw [cell_of_row w _ _ _ _ _ g3, g2];rw [List.getElem?_take] at hj
  split at hj
  ·rw [List.getElem?_drop] at hj
   simpa [Nat.add_assoc] using hj
  ·cases hj
 have : (execOp e o).run E.P w = .ok (.value (.agg ((vs.drop p).take k).toArray)) w := by
  simp [execOp, ho, h3, Instr.loadAt, Instr.sureAddr, run_loadVar_agg ht (h5.length.trans hl) hcell]
 rw [this];exact ⟨Grow.refl w, _, rfl, h5⟩
theorem eff_store {o : Oper} {mem : Mem} {ev : Operand → TV} {t : TypeId} {x y : Operand} {k id p : Nat} {b : Bool} {cs ds : List TV} {tv : TV} (ho : o.op = .store t x y) (ht : tyK E.P t = some (k, b)) (hx : ev x = .ptr id p) (hy : ev y = tv) [PartT tv ds]
  (hb : lookO mem id = some (.box cs)) (hk : ds.length = k) (hl : Nat.ble (p + k) cs.length = true) : EffW E o mem ev undefT ((id, .box (setAt cs p ds)) :: mem) none := by
 intro w0 M0 ρ w e hm he;have hl := Nat.le_of_ble_eq_true hl;have h1 := he x (by rw [ho]; simp [Op.operands]);rw [hx] at h1;obtain ⟨ow, h2, h3⟩ := h1;have h4 := he y (by rw [ho]; simp [Op.operands]);rw [hy] at h4;have h5 := PartT.part h4;obtain ⟨ow', ty, vs, g1, g2, g3, g4⟩ := hm.blk id _ hb
 have : ow' = ow := by rw [h2] at g1; simpa using g1.symm
 subst this;obtain ⟨w', cur', r1, r2, r3, r4, r5, r6, r7, r8⟩ := run_storeAt (P := E.P) (o0 := p) ht g3 (h5.length.trans hk) (by simp [g4.length]; omega) h5.one
 have hrun : (execOp e o).run E.P w = .ok .skip w' := by
  have h3' : e x = .pointer (some ⟨ow'.b, p, none⟩) := by rw [h3, g2, Nat.zero_add]
  simp [execOp, ho, h3', r1]
 rw [hrun];have hd : Diff ρ id w w' := ⟨r6, r7, r8, by omega, fun b _ hne => r4 b (hne ow' h2)⟩
 have hM : ∀ b, b < w.heap.size → owned M0 (rhoSet ρ id (some ow')) b → owned M0 ρ b := by
  rintro b hb (h | ⟨i, o, h, rfl⟩)
  ·exact .inl h
  ·by_cases hi : i = id
   ·subst hi; rw [rhoSet_same] at h; cases h; exact .inr ⟨i, ow', h2, rfl⟩
   ·exact .inr ⟨i, o, by simpa [rhoSet, hi] using h, rfl⟩
 have hρ : ∀ i, some i ≠ none → ρ i ≠ none → rhoSet ρ id (some ow') i = ρ i := by
  intro i _ h
  by_cases hi : i = id
  ·subst hi; rw [rhoSet_same]; exact h2.symm
  ·simp [rhoSet, hi]
 have hh : ∀ b, b < w.heap.size → ¬ owned M0 ρ b → w'.heap[b]? = w.heap[b]? := fun b _ hno => r4 b fun he => hno (.inr ⟨id, ow', h2, he.symm⟩);obtain ⟨k1, k2⟩ := mrel_upd (id := id) (x := some ow') (blk' := .box (setAt cs p ds)) none hm hd (fun o ho => by cases ho; exact ⟨.inr ⟨ow', h2, rfl⟩, by rw [r5]; exact (hm.fresh id ow' h2).2⟩) (.inr ⟨rfl, .inr h2⟩) (fun _ b _ _ => noref_none b) (.inl rfl)
  ⟨ow', ty, cur'.toList, rhoSet_same _ _ _, g2, by simpa using r2, by rw [r3]; exact TFits.mono hh hM none hρ (fun c _ => by cases c <;> rfl) (by simpa using TFits.setAt p g4 h5)⟩
 exact ⟨_, k1, k2, rfl⟩
end
section
variable {P : Program}
def ownVal (x : Option Own) (n : Nat) : Value := match x with
 | none => .slice none 0 0
 | some ow => .slice (some ⟨ow.b, ow.o, none⟩) n ow.cap
def OwnS (w : World) (e : TypeId) (k : Nat) (x : Option Own) (n : Nat) (vs : List Value) : Prop :=
 (x = none ∧ n = 0 ∧ vs = []) ∨ ∃ ow, ∃ cur : Array Value, x = some ow ∧ w.heap[ow.b]? = some (.cells cur e (0, 0)) ∧ n ≤ ow.cap ∧ ow.cap ≤ maxLen ∧ (ow.cap = 0 ∨ ow.o + ow.cap * k ≤ cur.size) ∧ (cur.toList.drop ow.o).take (n * k) = vs
def SrcS (w : World) (k : Nat) (m : Nat) (news : List Value) (v : Value) : Prop :=
 news.length = m * k ∧ ∃ a c, v = .slice a m c ∧ (m = 0 ∨ ∃ b o, a = some ⟨b, o, none⟩ ∧ ∀ j u, news[j]? = some u → w.cell? ⟨b, o + j, none⟩ = some u)
theorem take_drop_set {cur : List Value} {o a : Nat} {news vs : List Value} (hvs : (cur.drop o).take a = vs) (hl : o + a + news.length ≤ cur.length) : ((setAt cur (o + a) news).drop o).take (a + news.length) = vs ++ news := by
 have h1 : (cur.take (o + a)).length = o + a := by rw [List.length_take]; omega
 have h2 : (cur.take (o + a)).drop o = vs := by rw [List.drop_take, ← hvs]; congr 1; omega
 have h3 : vs.length = a := by rw [← hvs, List.length_take, List.length_drop]; omega
 simp only [setAt, List.append_assoc];rw [List.drop_append_of_le_length (by omega), h2, ← List.append_assoc];rw [show a + news.length = (vs ++ news).length by simp [h3]];exact List.take_left
theorem run_app {t ty e : TypeId} {i : TypeInfo} {z : Value} {k : Nat} (ht : P.underlying t = some (.slice e)) (hi : P.info? e = some i) (hz : i.zero = some z) (hsize : i.size = k) (hzs : z.cells.size = k) (hk : 0 < k)
  {w : World} {x : Option Own} {n : Nat} {vs : List Value} (hown : OwnS w e k x n vs) {m : Nat} {news : List Value} {v : Value} (hsrc : SrcS w k m news v) (h1 : ∀ u ∈ news, u.oneCell' = true)
  (h63 : n + m ≤ maxLen) (hbytes : (n + m) * i.bytes ≤ 140737488355328) :
  ∃ x' w', (Builtin.append_ #[t, t] ty #[ownVal x n, v]).run P w = .ok (ownVal x' (n + m)) w' ∧ OwnS w' e k x' (n + m) (vs ++ news) ∧ (∀ b, b < w.heap.size → (∀ ow, x = some ow → b ≠ ow.b) → w'.heap[b]? = w.heap[b]?) ∧
   w.heap.size ≤ w'.heap.size ∧ w'.os = w.os ∧ w'.tape = w.tape ∧ w'.output = w.output ∧ (∀ o, x' = some o → (w.heap.size ≤ o.b ∨ ∃ ow, x = some ow ∧ ow.b = o.b) ∧ o.b < w'.heap.size) := by
 subst hsize
 have hsmall : n + m ≤ 9223372036854775807 := by simp only [maxLen] at h63; omega
 obtain ⟨hl, a, c, rfl, hcells⟩ := hsrc
 by_cases hm : m = 0
 ·subst hm;have hnews : news = [] := List.eq_nil_of_length_eq_zero (by simpa using hl);subst hnews;refine ⟨x, w, ?_, by simpa using hown, fun _ _ _ => rfl, Nat.le_refl _, rfl, rfl, rfl, fun o ho => ?_⟩
  ·have hf : (Builtin.firstCells i.size 0 (.slice a 0 c)).run P w = .ok #[] w := by
    cases a with
    | none => simp [Builtin.firstCells]
    | some a => simp [Builtin.firstCells, loadCells, loadCellsFrom]
   rcases hown with ⟨rfl, rfl, rfl⟩ | ⟨ow, cur, rfl, h2, h3, _⟩
   ·simp [Builtin.append_, run_underlying ht, sizeOf, typeInfo, hi, Builtin.lenOf, ownVal, hf]
   ·simp [Builtin.append_, run_underlying ht, sizeOf, typeInfo, hi, Builtin.lenOf, ownVal, h3, hf, storeCells]
  ·subst ho
   rcases hown with ⟨h, _⟩ | ⟨ow, cur, h, h2, _⟩
   ·cases h
   ·cases h
    refine ⟨.inr ⟨o, rfl, rfl⟩, ?_⟩;exact (Array.getElem?_eq_some_iff.1 h2).1
 ·rcases hcells with h | ⟨b, o, rfl, hcells⟩
  ·exact absurd h hm
  have hadd : ∀ j u, news[j]? = some u → w.cell? ((⟨b, o, none⟩ : Addr).add j) = some u := fun j u hj => by rw [Addr.add_lit]; exact hcells j u hj
  -- a new row
  have grown : ∀ (old : Nat) (olds : List Value), olds.length = n * i.size →
    OwnS (w.drew.alloc (.cells (olds.toArray ++ news.toArray ++ Builtin.zeroCells z.cells (grownCap w (n + m) old e - (n + m))) e)) e i.size (some ⟨w.heap.size, 0, grownCap w (n + m) old e⟩) (n + m) (olds ++ news) := by
   intro old olds holds;have hge := grownCap_ge w (n + m) old e;have hcm : grownCap w (n + m) old e ≤ maxLen := grownCap_le_maxLen w (n + m) old e h63;refine .inr ⟨_, _, rfl, heap_alloc_new w.drew _, hge, hcm, .inr ?_, ?_⟩
   ·simp only [Array.size_append, List.size_toArray, size_zeroCells, hzs, holds, hl, ← Nat.add_mul, Nat.zero_add];refine Nat.le_of_eq ?_
    congr 1
    omega
   ·simp only [Array.toList_append, List.append_assoc, List.drop_zero];rw [← List.append_assoc, show (n + m) * i.size = (olds ++ news).length by rw [List.length_append, holds, hl, Nat.add_mul]];exact List.take_left
  have fresh : ∀ (o : Obj) (ow : Own), ow.b = w.heap.size → (∀ b, b < w.heap.size → (∀ ow, x = some ow → b ≠ ow.b) → (w.drew.alloc o).heap[b]? = w.heap[b]?) ∧ w.heap.size ≤ (w.drew.alloc o).heap.size ∧ (w.drew.alloc o).os = w.os ∧ (w.drew.alloc o).tape = w.tape ∧
    (w.drew.alloc o).output = w.output ∧ (∀ o', some ow = some o' → (w.heap.size ≤ o'.b ∨ ∃ ow, x = some ow ∧ ow.b = o'.b) ∧ o'.b < (w.drew.alloc o).heap.size) := by
   intro o ow how;exact ⟨fun b hb _ => RowKit.Below.heap_alloc w.drew o b hb, by simp, rfl, rfl, rfl, fun o' ho' => by cases ho'; rw [how]; exact ⟨.inl (Nat.le_refl _), by simp⟩⟩
  rcases hown with ⟨rfl, rfl, rfl⟩ | ⟨ow, cur, rfl, h2, h3, h4, h5, h6⟩
  ·have hr := run_append_nil (P := P) w t ty e i z ht hi hz ⟨b, o, none⟩ m c news hl hadd (by omega) (by omega) (by simp only [Nat.zero_add] at hbytes; omega);have hg := grown 0 [] (by simp);simp only [Nat.zero_add, List.nil_append, Array.empty_append] at hg hr ⊢;exact ⟨some ⟨w.heap.size, 0, grownCap w m 0 e⟩, _, hr, hg, fresh _ _ rfl⟩
  ·by_cases hroom : n + m ≤ ow.cap
   ·have hfit : ow.o + n * i.size + news.length ≤ cur.size := by
     rw [hl];have h5 := h5.resolve_left (by omega);have : (n + m) * i.size ≤ ow.cap * i.size := Nat.mul_le_mul_right _ hroom;rw [Nat.add_mul] at this
     omega
    obtain ⟨w', cur', r1, r2, r3, r4, r5, r6, r7, r8⟩ := run_storeCells (P := P) ow.b (ow.o + n * i.size) e news 0 cur w h2 (by simpa using hfit) h1;have hf := run_firstCells_some (P := P) w i.size m ⟨b, o, none⟩ m c news hl hadd;refine ⟨some ow, w', ?_, .inr ⟨ow, cur', rfl, r2, hroom, h4, .inr ?_, ?_⟩, fun b _ hne => r4 b (hne ow rfl), by omega, r6, r7, r8, fun o' ho' => by cases ho'; exact ⟨.inr ⟨ow, rfl, rfl⟩, by rw [r5]; exact (Array.getElem?_eq_some_iff.1 h2).1⟩⟩
    ·simp [Builtin.append_, run_underlying ht, sizeOf, typeInfo, hi, Builtin.lenOf, ownVal, hroom, hf, Addr.add_lit, r1]
    ·have h5 := h5.resolve_left (by omega);rw [← Array.length_toList (xs := cur'), r3];simp only [setAt, List.length_append, List.length_take, List.length_drop, Array.length_toList]
     omega
    ·rw [r3, Nat.add_zero, Nat.add_mul, ← hl];exact take_drop_set h6 (by simpa using hfit)
   ·have hvl : vs.length = n * i.size := by
     rcases h5 with h5 | h5
     ·have : n = 0 := by omega
      subst this;rw [← h6]; simp
     rw [← h6, List.length_take, List.length_drop, Array.length_toList];have : n * i.size ≤ ow.cap * i.size := Nat.mul_le_mul_right _ h3
     omega
    have holds : ∀ j u, vs[j]? = some u → w.cell? ((⟨ow.b, ow.o, none⟩ : Addr).add j) = some u := by
     intro j u hj;rw [Addr.add_lit, cell_of_row w _ _ _ _ _ h2];rw [← h6, List.getElem?_take] at hj
     split at hj
     ·rw [List.getElem?_drop] at hj; simpa using hj
     ·cases hj
    have hr := run_append_grow (P := P) w t ty e i z ht hi hz ⟨ow.b, ow.o, none⟩ n ow.cap vs hvl holds ⟨b, o, none⟩ m c news hl hadd (by omega) (by omega) (growslice_fits (by omega) hbytes);exact ⟨some ⟨w.heap.size, 0, grownCap w (n + m) ow.cap e⟩, _, hr, grown ow.cap vs hvl, fresh _ _ rfl⟩
end
end Go.Sim
