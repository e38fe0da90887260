/-
  What is proved: lemmas and contracts of functions on the way to the law topChockSent (part 3).
-/
import Derived.Test.YtlgimmdbgbofgaaGreatDoorVrA2
import Derived.Test.YtlgimmdbgbofgaaGreatDoorProg
import Derived.ProofKit
import Derived.Shelf.Strings.Builder1
import Derived.Shelf.Strings.Builder2
import Derived.Shelf.Strings.OnBuilder
import Derived.Shelf.Small.Strs
import Derived.Shelf.Small.Wraps
import Derived.Shelf.Strings.BuilderF
import Derived.Shelf.Strings.BuilderK
import Derived.Shelf.Utf8.RuneCount
import Derived.Shelf.Strings.Builder2Cap
import Derived.Shelf.Strconv.Itoa0
import Derived.Shelf.Strconv.Itoa1
import Derived.Shelf.LaysM
import Derived.Shelf.Strconv.Itoa2
import Derived.Shelf.Strconv.Itoa3
import Derived.Shelf.Strings.Search1
import Derived.Shelf.Strings.Search2
import Derived.Shelf.Strings.Search3
import Derived.Shelf.Strings.Count
import Derived.Shelf.Strings.Shaped
import Derived.Shelf.Strings.Prefix
import Derived.Shelf.Strings.Split
import Derived.Shelf.Strings.SplitShaped
import Derived.Shelf.Unicode.Decode
import Derived.Shelf.Strings.RuneCount
import Derived.Shelf.Strings.Explode
import Derived.Shelf.Bits.Mul64
import Derived.Shelf.Strings.Repeat
import Derived.Shelf.Unicode.DecodeSlow
import Derived.Shelf.Unicode.DecodeAny
import Derived.Shelf.Strings.BuilderCap
import Derived.WalkKit
import Derived.BigCall
import Derived.Laws.MakeOwn
set_option linter.unusedSectionVars false
set_option linter.unusedSimpArgs false
set_option linter.unusedVariables false
set_option linter.unnecessarySimpa false
set_option linter.deprecated false
namespace Go.Sim
open Go.Proofs
def sv (l : List UInt8) : Value := .string ⟨l.toArray⟩
theorem tryzOrders : Tryz.prog.follows .mixedOrders = true := by kernel_rfl
noncomputable abbrev EG (g : List (Nat × List Value)) : Env := ⟨Tryz.prog, g, tryzOrders, [], none, false, 0⟩
def eqAnd : List Bool → Bool
 | [] => true
 | b :: l => b && eqAnd l
def ixO {α : Type} (l : List α) (i : Int) : Option α := bif decide (0 ≤ i) then l[i.toNat]? else none
theorem ixO_nn {α : Type} {l : List α} {i : Int} {x : α} (h : ixO l i = some x) : 0 ≤ i := by
 unfold ixO at h
 cases hd : decide (0 ≤ i) with
 | true => exact of_decide_eq_true hd
 | false => rw [hd] at h; cases h
theorem ixO_get {α : Type} {l : List α} {i : Int} {x : α} (h : ixO l i = some x) : l[i.toNat]? = some x := by
 have := ixO_nn h;unfold ixO at h;rw [decide_eq_true this] at h; exact h
theorem le_get {α : Type} {l : List α} {k : Nat} {x : α} (h : l[k]? = some x) : ((k : Nat) : Int).toNat ≤ l.length := by
 have := (List.getElem?_eq_some_iff.1 h).1
 simp; omega
theorem rv_viewL {E : Env} {s : ASt} {t id k : Nat} {e : TypeId} {α : Type} {f : α → List G} {l : List α} (h : s.get t = .osl id k 0 l.length) (hb : lookO s.mem id = some (.arr e k (l.map f))) (hbw : lookO E.bow id = none := by rfl) (hst : strictB E = true := by rfl) : RVal E s (.tmp t) (.sl k (l.map f)) := by
 refine rv_view ?_ (by rw [h]; simp [viewB, hbw, hst]);rw [h]
 simp [viewG, hb]
 rw [show l.length = (l.map f).length by simp, List.take_length]
theorem rv_nilG {E : Env} {s : ASt} {t : Nat} {x : G} (h : s.get t = .g (.lit (.slice none 0 0))) (hx : ∀ w M, x.p w M (.slice none 0 0)) : RVal E s (.tmp t) x := by
 intro w0 M0 ρ w tmps hm ht;refine ⟨tmps.getD t undef, rfl, ?_, fun _ _ => rfl⟩;have := ht t;rw [h] at this;rw [show tmps.getD t undef = _ from this];exact hx _ _
theorem agv_nil {ev : Operand → TV} {mem : Mem} : List.map (fun x => viewG mem (ev x)) [] = List.map some [] := rfl
theorem agv_cons {ev : Operand → TV} {mem : Mem} {x : Operand} {xs : List Operand} {y : G} {ys : List G} (h : ev x = .g y) (k : List.map (fun x => viewG mem (ev x)) xs = List.map some ys) : List.map (fun x => viewG mem (ev x)) (x :: xs) = List.map some (y :: ys) := by
 simp only [List.map_cons]; rw [h, k]; rfl
theorem agv_osl {ev : Operand → TV} {mem : Mem} {x : Operand} {xs : List Operand} {ys : List G} {id k : Nat} {e : TypeId} {α : Type} {f : α → List G} {l : List α} (h : ev x = .osl id k 0 l.length) (hb : lookO mem id = some (.arr e k (l.map f))) (kk : List.map (fun x => viewG mem (ev x)) xs = List.map some ys) :
  List.map (fun x => viewG mem (ev x)) (x :: xs) = List.map some (.sl k (l.map f) :: ys) := by
 simp only [List.map_cons];rw [h, kk]
 congr 1
 simp [viewG, hb]
 rw [show l.length = (l.map f).length by simp, List.take_length]
section
variable {E : Env} {o : Oper} {ev : Operand → TV}
def shrI (a b : Int) : Int := a.fdiv (2 ^ (min b.toNat 64))
def shlI (a b : Int) : Int := IntKind.i64.wrap (a * 2 ^ (min b.toNat 64))
def andI (a b : Int) : Int := IntKind.i64.wrap ((BitVec.ofInt 64 a &&& BitVec.ofInt 64 b).toNat : Int)
def orI (a b : Int) : Int := IntKind.i64.wrap ((BitVec.ofInt 64 a ||| BitVec.ofInt 64 b).toNat : Int)
theorem eff_and2 {t t' : TypeId} {x y : Operand} {a b : Int} (ho : o.op = .binOp .and t x y t') (hx : ev x = .g (.int a)) (hy : ev y = .g (.int b)) (mem : Mem) : Eff E o mem ev (.g (.int (andI a b))) :=
 eff_int ho hx hy rfl mem
theorem eff_or2 {t t' : TypeId} {x y : Operand} {a b : Int} (ho : o.op = .binOp .or t x y t') (hx : ev x = .g (.int a)) (hy : ev y = .g (.int b)) (mem : Mem) : Eff E o mem ev (.g (.int (orI a b))) :=
 eff_int ho hx hy rfl mem
theorem eff_shr {t t' : TypeId} {x y : Operand} {k : IntKind} {a b : Int} (ho : o.op = .binOp .shr t x y t') (hx : ev x = .g (.int a)) (hy : ev y = .g (.lit (.int k b))) (h0 : 0 ≤ b) (mem : Mem) : Eff E o mem ev (.g (.int (shrI a b))) :=
 eff_bin ho hx hy (fun w => ⟨.int .i64 (shrI a b), by
  have : ¬ b < 0 := by omega
  simp [eqGuard, binOp, Op.shift, this, shrI]
  rfl, fun _ => rfl⟩) mem
theorem eff_shl {t t' : TypeId} {x y : Operand} {k : IntKind} {a b : Int} (ho : o.op = .binOp .shl t x y t') (hx : ev x = .g (.int a)) (hy : ev y = .g (.lit (.int k b))) (h0 : 0 ≤ b) (mem : Mem) : Eff E o mem ev (.g (.int (shlI a b))) :=
 eff_bin ho hx hy (fun w => ⟨.int .i64 (shlI a b), by
  have : ¬ b < 0 := by omega
  simp [eqGuard, binOp, Op.shift, this, shlI]
  rfl, fun _ => rfl⟩) mem
end
theorem eff_quow {E : Env} {o : Oper} {ev : Operand → TV} {t t' : TypeId} {x y : Operand} {a b : Int} (ho : o.op = .binOp .quo t x y t') (hx : ev x = .g (.int a)) (hy : ev y = .g (.int b)) (hb : b ≠ 0) (mem : Mem) : Eff E o mem ev (.g (.int (IntKind.i64.wrap (a.tdiv b)))) :=
 eff_int ho hx hy (by rw [binOp_quo, Op.intDiv, if_neg hb]) mem
inductive Sh where
 | int | str | bool
 | num (k : IntKind)
 | sl (l : List Sh)
inductive Is : List Sh → List G → Prop
 | nil : Is [] []
 | int {l : List Sh} {gs : List G} (n : Int) (h : Is l gs) : Is (.int :: l) (G.int n :: gs)
 | num {l : List Sh} {gs : List G} {k : IntKind} (n : Int) (h1 : k.min ≤ n) (h2 : n ≤ k.max) (h : Is l gs) : Is (.num k :: l) (G.lit (.int k n) :: gs)
 | str {l : List Sh} {gs : List G} (s : ByteArray) (h : Is l gs) : Is (.str :: l) (G.str s :: gs)
 | bool {l : List Sh} {gs : List G} (b : Bool) (h : Is l gs) : Is (.bool :: l) (G.bool b :: gs)
 | sl {l : List Sh} {gs : List G} {k : Nat} {m : List Sh} {xs : List (List G)} (hk : k = m.length) (hx : ∀ c ∈ xs, Is m c) (h : Is l gs) : Is (.sl m :: l) (G.sl k xs :: gs)
theorem Is.length {l : List Sh} {gs : List G} (h : Is l gs) : gs.length = l.length := by
 induction h <;> simp_all
theorem Is.append {l m : List Sh} {gs hs : List G} (h : Is l gs) (k : Is m hs) : Is (l ++ m) (gs ++ hs) := by
 induction h with
 | nil => exact k
 | int n _ ih => exact .int n ih
 | num n h1 h2 _ ih => exact .num n h1 h2 ih
 | str s _ ih => exact .str s ih
 | bool b _ ih => exact .bool b ih
 | sl hk hx _ _ ih => exact .sl hk hx ih
theorem list_of {α : Type} {f : α → List G} : ∀ {xs : List (List G)}, (∀ c ∈ xs, ∃ x, c = f x) → ∃ l : List α, xs = l.map f
 | [], _ => ⟨[], rfl⟩
 | c :: xs, h => by
  obtain ⟨x, rfl⟩ := h _ (List.mem_cons_self ..);obtain ⟨l, rfl⟩ := list_of fun c hc => h c (List.mem_cons_of_mem _ hc);exact ⟨x :: l, rfl⟩
def fieldsSh (P : Program) (rec : TypeId → Option (List Sh)) : List Field → Nat → Nat → Option (List Sh)
 | [], o, tot => if o = tot then some [] else none
 | f :: fs, o, tot => if f.offset = o then (match rec f.type with
  | some l => if l.length = P.cellsOf f.type then (match fieldsSh P rec fs (o + l.length) tot with | some r => some (l ++ r) | none => none) else none
  | none => none) else none
def shOf (P : Program) : Nat → TypeId → Option (List Sh)
 | 0, _ => none
 | n + 1, t => match P.underlying t with
  | some (.int k) => match k with
   | .i64 => some [.int]
   | k => some [.num k]
  | some .string => some [.str]
  | some .bool => some [.bool]
  | some (.slice e) => match shOf P n e with
   | some l => if l.length = P.cellsOf e then some [.sl l] else none
   | none => none
  | some (.struct fs) => fieldsSh P (shOf P n) fs.toList 0 (P.cellsOf t)
  | _ => none
section
variable {H : Type} {enc : TypeId × Value → H} {P : Program} {w : World} {base : Nat} {spare : Nat → Bool} {held : Bool}
theorem fits_app {M : Nat → Prop} : ∀ {gs : List G} {vs : List Value} {gs' : List G} {vs' : List Value}, Fits w M gs vs → Fits w M gs' vs' → Fits w M (gs ++ gs') (vs ++ vs')
 | [], [], _, _, _, h => h
 | _ :: _, _ :: _, _, _, h, k => ⟨h.1, fits_app h.2 k⟩
 | [], _ :: _, _, _, h, _ => h.elim
 | _ :: _, [], _, _, h, _ => h.elim
theorem fits_len {M : Nat → Prop} : ∀ {gs : List G} {vs : List Value}, Fits w M gs vs → vs.length = gs.length
 | [], [], _ => rfl
 | _ :: _, _ :: _, h => by simp [fits_len h.2]
 | [], _ :: _, h => h.elim
 | _ :: _, [], h => h.elim
theorem cells_app {M : Nat → Prop} {b : Nat} : ∀ {gs gs' : List G} {o : Nat}, Cells w M b o gs → Cells w M b (o + gs.length) gs' → Cells w M b o (gs ++ gs')
 | [], _, _, _, k => k
 | g :: gs, gs', o, h, k => ⟨h.1, cells_app h.2 (by rw [show o + 1 + gs.length = o + (g :: gs).length by simp; omega]; exact k)⟩
theorem cells_mk_fits {M : Nat → Prop} {b : Nat} : ∀ {gs : List G} {vs : List Value} {o : Nat}, Fits w M gs vs → (∀ i, i < vs.length → w.cell? ⟨b, o + i, none⟩ = vs[i]?) → Cells w M b o gs
 | [], [], _, _, _ => trivial
 | g :: gs, v :: vs, o, h, k => ⟨⟨v, by simpa using k 0 (by simp), h.1.1, h.1.2⟩, cells_mk_fits h.2 fun i hi => by
   have := k (i + 1) (by simpa using hi)
   rw [show o + 1 + i = o + (i + 1) by omega, this]; rfl⟩
 | [], _ :: _, _, h, _ => h.elim
 | _ :: _, [], _, h, _ => h.elim
theorem flat_len {k : Nat} : ∀ {xs : List (List G)}, (∀ c ∈ xs, c.length = k) → xs.flatten.length = xs.length * k
 | [], _ => by simp
 | c :: xs, h => by
  rw [List.flatten_cons, List.length_append, h c (List.mem_cons_self ..), flat_len fun c hc => h c (List.mem_cons_of_mem _ hc), List.length_cons, Nat.succ_mul, Nat.add_comm]
def Reads (H : Type) (enc : TypeId × Value → H) (P : Program) (w : World) (base : Nat) (spare : Nat → Bool) (held : Bool) (t : TypeId) (l : List Sh) : Prop :=
 ∀ fuel cs x, DataW.trod enc P w base spare held fuel t cs = some x → ∃ gs, Is l gs ∧ Fits w (fun _ => False) gs cs
theorem slice_fits {t e : TypeId} {l : List Sh} (ht : P.underlying t = some (.slice e)) (hl : l.length = P.cellsOf e) (ih : Reads H enc P w base spare held e l) {fuel : Nat} {cs : List Value} {x : DataW H × List MemPlace}
  (h : DataW.trod enc P w base spare held fuel t cs = some x) :
  ∃ xs : List (List G), (∀ c ∈ xs, Is l c) ∧ Fits w (fun _ => False) [G.sl l.length xs] cs ∧ (xs = [] ∨ ∃ elems rest, x.1 = .slice elems rest ∧ elems.length = xs.length) := by
 rcases DataW.trod_slice ht h with ⟨rfl, rfl⟩ | ⟨a, len, cap, elems, rest, n, _, rfl, rfl, _, hlc, hcm, hlen, hel, _, _⟩
 ·exact ⟨[], by simp, ⟨⟨⟨none, 0, rfl, Nat.le_refl _, by simp, by simp, .inl ⟨rfl, fun _ => rfl⟩⟩, rfl⟩, trivial⟩, .inl rfl⟩
 ·have hsp : 0 < len → l.length ≠ 0 → a.spot = none := by
   intro hp hz;have h5 := hel 0 hp;rw [List.getElem?_eq_getElem (by omega), Option.bind_eq_some_iff] at h5;obtain ⟨csm, h6, _⟩ := h5;obtain ⟨_, g1, g2⟩ := World.cells?_some h6;have c0 := g2 0 (by omega);rw [List.getElem?_eq_getElem (by omega)] at c0;unfold World.cell? at c0
   split at c0
   ·split at c0
    ·cases c0
    ·rename_i hs
     simpa [Addr.add] using hs
   ·cases c0
  have key : ∀ m, m ≤ len → ∃ xs : List (List G), xs.length = m ∧ (∀ c ∈ xs, Is l c) ∧ Cells w (fun _ => False) a.block a.off xs.flatten := by
   intro m
   induction m with
   | zero => intro _; exact ⟨[], rfl, by simp, trivial⟩
   | succ m im =>
    intro hm;obtain ⟨xs, h1, h2, h4⟩ := im (by omega);have h5 := hel m (by omega);rw [List.getElem?_eq_getElem (by omega), Option.bind_eq_some_iff] at h5;obtain ⟨csm, h6, h7⟩ := h5;obtain ⟨gs, h8, h9⟩ := ih _ _ _ h7;obtain ⟨_, g1, g2⟩ := World.cells?_some h6;have gl := fits_len h9;have hx := h8.length;have hk : ∀ c ∈ xs, c.length = l.length := fun c hc => (h2 c hc).length;have fl := flat_len hk;refine ⟨xs ++ [gs], by simp [h1], ?_, ?_⟩
    ·intro c hc
     rcases List.mem_append.1 hc with hc | hc
     ·exact h2 c hc
     ·rw [List.mem_singleton.1 hc]; exact h8
    ·rw [List.flatten_append];refine cells_app h4 ?_;rw [List.flatten_cons, List.flatten_nil, List.append_nil]
     by_cases hz : l.length = 0
     ·rw [List.eq_nil_of_length_eq_zero (hx.trans hz)]; trivial
     ·have hs := hsp (by omega) hz;refine cells_mk_fits h9 fun i hi => ?_;have ci := g2 i (by omega);rw [← ci, fl, h1, hl]
      congr 1
      obtain ⟨ab, ao, as_⟩ := a;subst hs;simp only [Addr.add]
      split <;> split <;> simp_all
  obtain ⟨xs, h1, h2, h4⟩ := key len (Nat.le_refl _);refine ⟨xs, h2, ⟨⟨⟨some a, cap, by rw [h1], by omega, hcm, fun c hc => (h2 c hc).length, ?_⟩, rfl⟩, trivial⟩, .inr ⟨_, _, rfl, by simp [hlen, h1]⟩⟩
  by_cases hz : len = 0 ∨ l.length = 0
  ·refine .inl ⟨List.eq_nil_of_length_eq_zero ?_, fun e => by cases e⟩;rw [flat_len fun c hc => (h2 c hc).length, h1]
   rcases hz with hz | hz <;> simp [hz]
  ·refine .inr ⟨a.block, a.off, ?_, fun h => h, h4⟩;have := hsp (by omega) (by omega)
   cases a; simp_all
theorem fields_fits {n : Nat} (ih : ∀ t l, shOf P n t = some l → Reads H enc P w base spare held t l) : ∀ (fs : List Field) (o tot : Nat) (l : List Sh), fieldsSh P (shOf P n) fs o tot = some l →
  ∀ (fuel : Nat) (cs : List Value), cs.length = tot → (∀ f ∈ fs, ∃ y, DataW.trod enc P w base spare held fuel f.type ((cs.drop f.offset).take (P.cellsOf f.type)) = some y) → ∃ gs, Is l gs ∧ Fits w (fun _ => False) gs (cs.drop o)
 | [], o, tot, l, h, fuel, cs, hc, _ => by
  unfold fieldsSh at h
  split at h
  ·cases h; rename_i e; exact ⟨[], .nil, by rw [List.drop_eq_nil_of_le (by omega)]; trivial⟩
  ·cases h
 | f :: fs, o, tot, l, h, fuel, cs, hc, hf => by
  unfold fieldsSh at h
  split at h
  ·rename_i ho
   split at h
   ·rename_i l1 hl1
    split at h
    ·rename_i hlen
     split at h
     ·rename_i r hr
      cases h
      obtain ⟨y, hy⟩ := hf f (List.mem_cons_self ..);obtain ⟨gs1, k1, k2⟩ := ih _ _ hl1 _ _ _ hy;obtain ⟨gs2, k3, k4⟩ := fields_fits ih fs _ _ _ hr fuel cs hc fun g hg => hf g (List.mem_cons_of_mem _ hg);refine ⟨gs1 ++ gs2, k1.append k3, ?_⟩;rw [ho, ← hlen] at k2
      have : cs.drop o = (cs.drop o).take l1.length ++ cs.drop (o + l1.length) := by
       rw [← List.drop_drop, List.take_append_drop]
      rw [this];exact fits_app k2 k4
     ·cases h
    ·cases h
   ·cases h
  ·cases h
theorem sh_reads : ∀ (n : Nat) (t : TypeId) (l : List Sh), shOf P n t = some l → Reads H enc P w base spare held t l
 | 0, _, _, h => by cases h
 | n + 1, t, l, h => by
  intro fuel cs x hx;unfold shOf at h
  split at h
  ·rename_i k hu
   obtain ⟨m, rfl, _, hwf⟩ := DataW.trod_int hu hx;unfold Lit.wf at hwf;rw [Bool.and_eq_true, decide_eq_true_eq, decide_eq_true_eq] at hwf
   split at h
   ·cases h; exact ⟨[G.int m], .int m .nil, ⟨rfl, rfl⟩, trivial⟩
   ·cases h; exact ⟨[G.lit (.int _ m)], .num m hwf.1 hwf.2 .nil, ⟨rfl, rfl⟩, trivial⟩
  ·rename_i hu; cases h
   obtain ⟨s, rfl, _⟩ := DataW.trod_string hu hx;exact ⟨[G.str s], .str s .nil, ⟨rfl, rfl⟩, trivial⟩
  ·rename_i hu; cases h
   obtain ⟨b, rfl, _⟩ := DataW.trod_bool hu hx;exact ⟨[G.bool b], .bool b .nil, ⟨rfl, rfl⟩, trivial⟩
  ·rename_i e hu
   split at h
   ·rename_i le hle
    split at h
    ·rename_i hlen; cases h
     obtain ⟨xs, k1, k2, _⟩ := slice_fits hu hlen (sh_reads n e le hle) hx;exact ⟨_, .sl rfl k1 .nil, k2⟩
    ·cases h
   ·cases h
  ·rename_i fs hu
   obtain ⟨xs, m, _, _, hc, hlen, hf⟩ := DataW.trod_struct hu hx
   have := fields_fits (sh_reads n) fs.toList 0 _ l h m cs hc fun f hf' => by
    obtain ⟨i, hi⟩ := List.getElem?_of_mem hf'
    have hi' : fs[i]? = some f := by rw [← Array.getElem?_toList]; exact hi
    have hlt : i < xs.length := by rw [hlen]; exact (Array.getElem?_eq_some_iff.1 hi').1
    exact ⟨_, (hf i f hi').trans (List.getElem?_eq_getElem hlt)⟩
   simpa using this
  ·cases h
theorem arg_int {r : Reach} {b0 : Nat} {t : TypeId} {v : Value} {d : DataW H} {p : List MemPlace} {k : IntKind} (hs : P.underlying t = some (.int k)) (hv : Value.okWide P w r b0 t v) (h : DataW.Trod enc P w base spare held t v d p) :
  ∃ n : Int, (G.lit (.int k n)).p w (fun _ => False) v ∧ v = .int k n := by
 obtain ⟨fuel, hf⟩ := h;obtain ⟨n, hn, _⟩ := DataW.trod_int hs hf
 have : v.cells.toList = [v] := by
  unfold Value.okWide at hv;rw [hs] at hv;dsimp only at hv;unfold Cell.okWide Cell.ok at hv;rw [hs] at hv
  cases v <;> first | rfl | exact hv.elim
 rw [this] at hn
 have hn : v = .int k n := by simpa using hn
 exact ⟨n, hn, hn⟩
theorem arg_slice {r : Reach} {b0 : Nat} {t e : TypeId} {v : Value} {d : DataW H} {p : List MemPlace} {n : Nat} {l : List Sh} (hs : P.underlying t = some (.slice e)) (hl : shOf P n e = some l) (hle : l.length = P.cellsOf e) (hv : Value.okWide P w r b0 t v) (h : DataW.Trod enc P w base spare held t v d p) :
  ∃ xs : List (List G), (∀ c ∈ xs, Is l c) ∧ (G.sl l.length xs).p w (fun _ => False) v ∧ (xs = [] ∨ ∃ elems rest, d = .slice elems rest ∧ elems.length = xs.length) := by
 obtain ⟨fuel, hf⟩ := h;obtain ⟨xs, k1, k2, k3⟩ := slice_fits hs hle (sh_reads n e l hl) hf
 have : v.cells.toList = [v] := by
  unfold Value.okWide at hv;rw [hs] at hv;dsimp only at hv;unfold Cell.okWide Cell.ok at hv;rw [hs] at hv
  cases v <;> first | rfl | exact hv.elim
 rw [this] at k2;exact ⟨xs, k1, k2.1.1, k3⟩
end
end Go.Sim
namespace Go.Proofs
open Go.Shelf
def Tryz.lays169_ren : Go.Shelf.Ren := ⟨fun | 169 => 80 | n => n, fun | 70 => 108 | 9 => 9 | 0 => 0 | 72 => 111 | 37 => 109 | 127 => 138 | 3 => 3 | 5 => 5 | n => n, fun | n => n⟩
theorem Tryz.lays169 : Go.Proofs.Lays.n169 Tryz.prog Tryz.lays169_ren := {
 mixed := by kernel_rfl
 f169 := Tryz.func80.trans (congrArg some (by kernel_rfl))
 t0 := Tryz.underlying0
 a0 := Tryz.isAgg0
 z0 := Tryz.sizeOf0
 v0 := Tryz.zeroValue0
 t3 := Tryz.underlying3
 a3 := Tryz.isAgg3
 z3 := Tryz.sizeOf3
 v3 := Tryz.zeroValue3
 t9 := Tryz.underlying9
 a9 := Tryz.isAgg9
 z9 := Tryz.sizeOf9
 v9 := Tryz.zeroValue9
 t37 := Tryz.underlying109
 a37 := Tryz.isAgg109
 z37 := Tryz.sizeOf109
 v37 := Tryz.zeroValue109
 t70 := Tryz.underlying108
 a70 := Tryz.isAgg108
 z70 := Tryz.sizeOf108
 v70 := Tryz.zeroValue108
 t72 := Tryz.underlying111
 a72 := Tryz.isAgg111
 z72 := Tryz.sizeOf111
 v72 := Tryz.zeroValue111
 t127 := Tryz.underlying138
 a127 := Tryz.isAgg138
 z127 := Tryz.sizeOf138
 v127 := Tryz.zeroValue138 }
theorem Tryz.Builder_Extra_169 : Builder.Extra Tryz.prog Tryz.lays169_ren := {
 sizeBuilder := by kernel_rfl
 liesBuilder := by kernel_rfl
 t5 := Tryz.underlying5
 a5 := Tryz.isAgg5
 z5 := Tryz.sizeOf5
 v5 := Tryz.zeroValue5
 infoByte := by kernel_rfl
 cellsByte := by kernel_rfl
 sizeByte := by kernel_rfl
 neB5 := by decide }
open Go.RowKit in
theorem Tryz.Builder_String_any (B b : Nat) (l : List UInt8) (w : World) (h : Lib.IsBuilder 111 5 B b (Lib.byteCells l) w) (hBw : B ≤ w.heap.size) :
  Calls Tryz.prog 80 #[.pointer (some ⟨b, 0, none⟩)] w fun e w' => e = .returned (.string ⟨l.toArray⟩) ∧ Below B w w' := Any.Builder_String_any Tryz.lays169 Tryz.Builder_Extra_169 B b l w h hBw
def Tryz.lays156_ren : Go.Shelf.Ren := ⟨fun | 156 => 48 | 165 => 95 | 166 => 77 | 169 => 80 | 240 => 105 | 241 => 115 | 276 => 120 | 277 => 130 | n => n, fun | 31 => 43 | 9 => 9 | 3 => 3 | 4 => 4 | 0 => 0 | 20 => 20 | 72 => 111 | 76 => 114 | 70 => 108 | 37 => 109 | 75 => 113 | 127 => 138 | 164 => 148 | 5 => 5 | 80 => 117 | n => n, fun | n => n⟩
theorem Tryz.lays156 : Go.Proofs.Lays.n156 Tryz.prog Tryz.lays156_ren := {
 mixed := by kernel_rfl
 f156 := Tryz.func48.trans (congrArg some (by kernel_rfl))
 f165 := Tryz.func95.trans (congrArg some (by kernel_rfl))
 f166 := Tryz.func77.trans (congrArg some (by kernel_rfl))
 f169 := Tryz.func80.trans (congrArg some (by kernel_rfl))
 f240 := Tryz.func105.trans (congrArg some (by kernel_rfl))
 f241 := Tryz.func115.trans (congrArg some (by kernel_rfl))
 f276 := Tryz.func120.trans (congrArg some (by kernel_rfl))
 f277 := Tryz.func130.trans (congrArg some (by kernel_rfl))
 t0 := Tryz.underlying0
 a0 := Tryz.isAgg0
 z0 := Tryz.sizeOf0
 v0 := Tryz.zeroValue0
 t3 := Tryz.underlying3
 a3 := Tryz.isAgg3
 z3 := Tryz.sizeOf3
 v3 := Tryz.zeroValue3
 t4 := Tryz.underlying4
 a4 := Tryz.isAgg4
 z4 := Tryz.sizeOf4
 v4 := Tryz.zeroValue4
 t9 := Tryz.underlying9
 a9 := Tryz.isAgg9
 z9 := Tryz.sizeOf9
 v9 := Tryz.zeroValue9
 t20 := Tryz.underlying20
 a20 := Tryz.isAgg20
 z20 := Tryz.sizeOf20
 v20 := Tryz.zeroValue20
 t31 := Tryz.underlying43
 a31 := Tryz.isAgg43
 z31 := Tryz.sizeOf43
 v31 := Tryz.zeroValue43
 t37 := Tryz.underlying109
 a37 := Tryz.isAgg109
 z37 := Tryz.sizeOf109
 v37 := Tryz.zeroValue109
 t70 := Tryz.underlying108
 a70 := Tryz.isAgg108
 z70 := Tryz.sizeOf108
 v70 := Tryz.zeroValue108
 t72 := Tryz.underlying111
 a72 := Tryz.isAgg111
 z72 := Tryz.sizeOf111
 v72 := Tryz.zeroValue111
 t75 := Tryz.underlying113
 a75 := Tryz.isAgg113
 z75 := Tryz.sizeOf113
 v75 := Tryz.zeroValue113
 t76 := Tryz.underlying114
 a76 := Tryz.isAgg114
 z76 := Tryz.sizeOf114
 v76 := Tryz.zeroValue114
 t127 := Tryz.underlying138
 a127 := Tryz.isAgg138
 z127 := Tryz.sizeOf138
 v127 := Tryz.zeroValue138
 t164 := Tryz.underlying148
 a164 := Tryz.isAgg148
 z164 := Tryz.sizeOf148
 v164 := Tryz.zeroValue148 }
theorem Tryz.Builder_Extra_156 : Builder.Extra Tryz.prog Tryz.lays156_ren := {
 sizeBuilder := by kernel_rfl
 liesBuilder := by kernel_rfl
 t5 := Tryz.underlying5
 a5 := Tryz.isAgg5
 z5 := Tryz.sizeOf5
 v5 := Tryz.zeroValue5
 infoByte := by kernel_rfl
 cellsByte := by kernel_rfl
 sizeByte := by kernel_rfl
 neB5 := by decide }
open Go.RowKit in
theorem Tryz.strings_Join_none (a : Option Addr) (c : Nat) (sep : ByteArray) (w : World) :
  Calls Tryz.prog 48 #[.slice a 0 c, .string sep] w fun e w' => e = .returned (.string ⟨#[]⟩) ∧ w' = w := Any.strings_Join_none Tryz.lays156 Tryz.Builder_Extra_156 a c sep w
open Go.RowKit in
theorem Tryz.strings_Join (bk o c : Nat) (xs : List ByteArray) (sep : ByteArray) (w : World) (hcells : ∀ (j : Nat) x, xs[j]? = some x → w.cell? ⟨bk, o + j, none⟩ = some (.string x)) (hbk : bk < w.heap.size) (hN : xs.length ≤ 140737488355328) (hcap : xs.length ≤ c) (hlen : (Lib.join (xs.map (·.data.toList)) sep.data.toList).length ≤ 140737488355328) :
  Calls Tryz.prog 48 #[.slice (some ⟨bk, o, none⟩) xs.length c, .string sep] w fun e w' => e = .returned (.string ⟨(Lib.join (xs.map (·.data.toList)) sep.data.toList).toArray⟩) ∧ Below w.heap.size w w' := Any.strings_Join Tryz.lays156 Tryz.Builder_Extra_156 bk o c xs sep w hcells hbk hN hcap hlen
def Tryz.lays137_ren : Go.Shelf.Ren := ⟨fun | 137 => 111 | 217 => 126 | 266 => 142 | n => n, fun | 9 => 9 | 5 => 5 | 3 => 3 | n => n, fun | n => n⟩
theorem Tryz.lays137 : Go.Proofs.Lays.n137 Tryz.prog Tryz.lays137_ren := {
 mixed := by kernel_rfl
 f137 := Tryz.func111.trans (congrArg some (by kernel_rfl))
 f217 := Tryz.func126.trans (congrArg some (by kernel_rfl))
 f266 := Tryz.func142.trans (congrArg some (by kernel_rfl))
 t3 := Tryz.underlying3
 a3 := Tryz.isAgg3
 z3 := Tryz.sizeOf3
 v3 := Tryz.zeroValue3
 t5 := Tryz.underlying5
 a5 := Tryz.isAgg5
 z5 := Tryz.sizeOf5
 v5 := Tryz.zeroValue5
 t9 := Tryz.underlying9
 a9 := Tryz.isAgg9
 z9 := Tryz.sizeOf9
 v9 := Tryz.zeroValue9 }
open Go.RowKit in
theorem Tryz.strings_IndexByte (s : ByteArray) (c : Int) (w : World) :
  Calls Tryz.prog 111 #[.string s, .int .u8 c] w fun e w' => e = .returned (.int .i64 (Lib.indexByte s.data.toList c.toNat.toUInt8)) ∧ w' = w := Any.strings_IndexByte Tryz.lays137 s c w
def Tryz.lays104_ren : Go.Shelf.Ren := ⟨fun | 104 => 86 | 211 => 112 | 207 => 127 | n => n, fun | 9 => 9 | 4 => 4 | 24 => 123 | 3 => 3 | n => n, fun | n => n⟩
theorem Tryz.lays104 : Go.Proofs.Lays.n104 Tryz.prog Tryz.lays104_ren := {
 mixed := by kernel_rfl
 f104 := Tryz.func86.trans (congrArg some (by kernel_rfl))
 f207 := Tryz.func127.trans (congrArg some (by kernel_rfl))
 f211 := Tryz.func112.trans (congrArg some (by kernel_rfl))
 t3 := Tryz.underlying3
 a3 := Tryz.isAgg3
 z3 := Tryz.sizeOf3
 v3 := Tryz.zeroValue3
 t4 := Tryz.underlying4
 a4 := Tryz.isAgg4
 z4 := Tryz.sizeOf4
 v4 := Tryz.zeroValue4
 t9 := Tryz.underlying9
 a9 := Tryz.isAgg9
 z9 := Tryz.sizeOf9
 v9 := Tryz.zeroValue9
 t24 := Tryz.underlying123
 a24 := Tryz.isAgg123
 z24 := Tryz.sizeOf123
 v24 := Tryz.zeroValue123 }
open Go.RowKit in
theorem Tryz.strings_CutSuffix (s p : ByteArray) (w : World) (hs : s.size ≤ 9223372036854775807) :
  Calls Tryz.prog 86 #[.string s, .string p] w fun e w' => e = .returned (.tuple #[.string ⟨(Lib.trimSuffix s.data.toList p.data.toList).toArray⟩, .bool (Lib.hasSuffix s.data.toList p.data.toList)]) ∧ w' = w := Any.strings_CutSuffix Tryz.lays104 s p w hs
def Tryz.laysM171_ren : Go.Shelf.Ren := ⟨fun | 171 => 78 | 243 => 106 | 246 => 121 | 283 => 135 | 284 => 136 | 285 => 137 | 286 => 138 | 129 => 145 | 317 => 144 | 318 => 146 | 319 => 147 | 320 => 148 | 337 => 149 | 338 => 150 | n => n, fun | 3 => 3 | 9 => 9 | 2 => 2 | 4 => 4 | 171 => 159 | 0 => 0 | 53 => 160 | 37 => 109 | 5 => 5 | 173 => 163 | 212 => 176 | 51 => 165 | 20 => 20 | 213 => 177 | 46 => 151 | 232 => 180 | 233 => 181 | n => n, fun | 17 => 3 | 18 => 4 | 19 => 5 | n => n⟩
theorem Tryz.laysM171 : Go.Proofs.LaysM.n171 Tryz.prog Tryz.laysM171_ren := {
 mixed := by kernel_rfl
 f129 := Tryz.func145.trans (congrArg some (by kernel_rfl))
 f171 := Tryz.func78.trans (congrArg some (by kernel_rfl))
 f243 := Tryz.func106.trans (congrArg some (by kernel_rfl))
 f246 := Tryz.func121.trans (congrArg some (by kernel_rfl))
 f283 := Tryz.func135.trans (congrArg some (by kernel_rfl))
 f284 := Tryz.func136.trans (congrArg some (by kernel_rfl))
 f285 := Tryz.func137.trans (congrArg some (by kernel_rfl))
 f286 := Tryz.func138.trans (congrArg some (by kernel_rfl))
 f317 := Tryz.func144.trans (congrArg some (by kernel_rfl))
 f318 := Tryz.func146.trans (congrArg some (by kernel_rfl))
 f319 := Tryz.func147.trans (congrArg some (by kernel_rfl))
 f320 := Tryz.func148.trans (congrArg some (by kernel_rfl))
 f337 := Tryz.func149.trans (congrArg some (by kernel_rfl))
 f338 := Tryz.func150.trans (congrArg some (by kernel_rfl))
 t0 := Tryz.underlying0
 a0 := Tryz.isAgg0
 z0 := Tryz.sizeOf0
 v0 := Tryz.zeroValue0
 t2 := Tryz.underlying2
 a2 := Tryz.isAgg2
 z2 := Tryz.sizeOf2
 v2 := Tryz.zeroValue2
 t3 := Tryz.underlying3
 a3 := Tryz.isAgg3
 z3 := Tryz.sizeOf3
 v3 := Tryz.zeroValue3
 t4 := Tryz.underlying4
 a4 := Tryz.isAgg4
 z4 := Tryz.sizeOf4
 v4 := Tryz.zeroValue4
 t5 := Tryz.underlying5
 a5 := Tryz.isAgg5
 z5 := Tryz.sizeOf5
 v5 := Tryz.zeroValue5
 t9 := Tryz.underlying9
 a9 := Tryz.isAgg9
 z9 := Tryz.sizeOf9
 v9 := Tryz.zeroValue9
 t20 := Tryz.underlying20
 a20 := Tryz.isAgg20
 z20 := Tryz.sizeOf20
 v20 := Tryz.zeroValue20
 t37 := Tryz.underlying109
 a37 := Tryz.isAgg109
 z37 := Tryz.sizeOf109
 v37 := Tryz.zeroValue109
 t46 := Tryz.underlying151
 a46 := Tryz.isAgg151
 z46 := Tryz.sizeOf151
 v46 := Tryz.zeroValue151
 t51 := Tryz.underlying165
 a51 := Tryz.isAgg165
 z51 := Tryz.sizeOf165
 v51 := Tryz.zeroValue165
 t53 := Tryz.underlying160
 a53 := Tryz.isAgg160
 z53 := Tryz.sizeOf160
 v53 := Tryz.zeroValue160
 t171 := Tryz.underlying159
 a171 := Tryz.isAgg159
 z171 := Tryz.sizeOf159
 v171 := Tryz.zeroValue159
 t173 := Tryz.underlying163
 a173 := Tryz.isAgg163
 z173 := Tryz.sizeOf163
 v173 := Tryz.zeroValue163
 t212 := Tryz.underlying176
 a212 := Tryz.isAgg176
 z212 := Tryz.sizeOf176
 v212 := Tryz.zeroValue176
 t213 := Tryz.underlying177
 a213 := Tryz.isAgg177
 z213 := Tryz.sizeOf177
 t232 := Tryz.underlying180
 a232 := Tryz.isAgg180
 z232 := Tryz.sizeOf180
 v232 := Tryz.zeroValue180
 t233 := Tryz.underlying181
 a233 := Tryz.isAgg181
 z233 := Tryz.sizeOf181
 v233 := Tryz.zeroValue181
 g17 := by kernel_rfl
 g18 := by kernel_rfl
 g19 := by kernel_rfl
 i0 := by kernel_rfl
 i2 := by kernel_rfl
 i3 := by kernel_rfl
 i4 := by kernel_rfl
 i5 := by kernel_rfl
 i9 := by kernel_rfl
 i20 := by kernel_rfl
 i37 := by kernel_rfl
 i46 := by kernel_rfl
 i51 := by kernel_rfl
 i53 := by kernel_rfl
 i171 := by kernel_rfl
 i173 := by kernel_rfl
 i212 := by kernel_rfl
 i232 := by kernel_rfl
 i233 := by kernel_rfl
 m17 := by kernel_rfl
 m18 := by kernel_rfl
 m19 := by kernel_rfl }
open Go.RowKit Go.Sort Go.Lib in
theorem Tryz.strconv_Itoa (n : Int) (h0 : -9223372036854775808 ≤ n) (h1 : n ≤ 9223372036854775807) (w : World) (htab : Lib.TabIs Tryz.prog w "internal/strconv.uint64pow10" .u64 Lib.pow10Tab) :
  Calls Tryz.prog 78 #[.int .i64 n] w fun e w' => e = .returned (.string ⟨(Lib.itoa n).toArray⟩) ∧ ∃ k os, w' = grow (w.drewN k) os := Any.strconv_Itoa Tryz.laysM171 n h0 h1 w htab
def Tryz.lays171_ren : Go.Shelf.Ren := ⟨fun | 171 => 78 | 243 => 106 | 246 => 121 | 283 => 135 | 284 => 136 | 285 => 137 | 286 => 138 | 129 => 145 | 317 => 144 | 318 => 146 | 319 => 147 | 320 => 148 | 337 => 149 | 338 => 150 | n => n, fun | 3 => 3 | 9 => 9 | 2 => 2 | 4 => 4 | 171 => 159 | 0 => 0 | 53 => 160 | 37 => 109 | 5 => 5 | 173 => 163 | 212 => 176 | 51 => 165 | 20 => 20 | 213 => 177 | 46 => 151 | 232 => 180 | 233 => 181 | n => n, fun | 17 => 3 | 18 => 4 | 19 => 5 | n => n⟩
theorem Tryz.lays171 : Go.Proofs.Lays.n171 Tryz.prog Tryz.lays171_ren := {
 mixed := by kernel_rfl
 f129 := Tryz.func145.trans (congrArg some (by kernel_rfl))
 f171 := Tryz.func78.trans (congrArg some (by kernel_rfl))
 f243 := Tryz.func106.trans (congrArg some (by kernel_rfl))
 f246 := Tryz.func121.trans (congrArg some (by kernel_rfl))
 f283 := Tryz.func135.trans (congrArg some (by kernel_rfl))
 f284 := Tryz.func136.trans (congrArg some (by kernel_rfl))
 f285 := Tryz.func137.trans (congrArg some (by kernel_rfl))
 f286 := Tryz.func138.trans (congrArg some (by kernel_rfl))
 f317 := Tryz.func144.trans (congrArg some (by kernel_rfl))
 f318 := Tryz.func146.trans (congrArg some (by kernel_rfl))
 f319 := Tryz.func147.trans (congrArg some (by kernel_rfl))
 f320 := Tryz.func148.trans (congrArg some (by kernel_rfl))
 f337 := Tryz.func149.trans (congrArg some (by kernel_rfl))
 f338 := Tryz.func150.trans (congrArg some (by kernel_rfl))
 t0 := Tryz.underlying0
 a0 := Tryz.isAgg0
 z0 := Tryz.sizeOf0
 v0 := Tryz.zeroValue0
 t2 := Tryz.underlying2
 a2 := Tryz.isAgg2
 z2 := Tryz.sizeOf2
 v2 := Tryz.zeroValue2
 t3 := Tryz.underlying3
 a3 := Tryz.isAgg3
 z3 := Tryz.sizeOf3
 v3 := Tryz.zeroValue3
 t4 := Tryz.underlying4
 a4 := Tryz.isAgg4
 z4 := Tryz.sizeOf4
 v4 := Tryz.zeroValue4
 t5 := Tryz.underlying5
 a5 := Tryz.isAgg5
 z5 := Tryz.sizeOf5
 v5 := Tryz.zeroValue5
 t9 := Tryz.underlying9
 a9 := Tryz.isAgg9
 z9 := Tryz.sizeOf9
 v9 := Tryz.zeroValue9
 t20 := Tryz.underlying20
 a20 := Tryz.isAgg20
 z20 := Tryz.sizeOf20
 v20 := Tryz.zeroValue20
 t37 := Tryz.underlying109
 a37 := Tryz.isAgg109
 z37 := Tryz.sizeOf109
 v37 := Tryz.zeroValue109
 t46 := Tryz.underlying151
 a46 := Tryz.isAgg151
 z46 := Tryz.sizeOf151
 v46 := Tryz.zeroValue151
 t51 := Tryz.underlying165
 a51 := Tryz.isAgg165
 z51 := Tryz.sizeOf165
 v51 := Tryz.zeroValue165
 t53 := Tryz.underlying160
 a53 := Tryz.isAgg160
 z53 := Tryz.sizeOf160
 v53 := Tryz.zeroValue160
 t171 := Tryz.underlying159
 a171 := Tryz.isAgg159
 z171 := Tryz.sizeOf159
 v171 := Tryz.zeroValue159
 t173 := Tryz.underlying163
 a173 := Tryz.isAgg163
 z173 := Tryz.sizeOf163
 v173 := Tryz.zeroValue163
 t212 := Tryz.underlying176
 a212 := Tryz.isAgg176
 z212 := Tryz.sizeOf176
 v212 := Tryz.zeroValue176
 t213 := Tryz.underlying177
 a213 := Tryz.isAgg177
 z213 := Tryz.sizeOf177
 t232 := Tryz.underlying180
 a232 := Tryz.isAgg180
 z232 := Tryz.sizeOf180
 v232 := Tryz.zeroValue180
 t233 := Tryz.underlying181
 a233 := Tryz.isAgg181
 z233 := Tryz.sizeOf181
 v233 := Tryz.zeroValue181
 g17 := by kernel_rfl
 g18 := by kernel_rfl
 g19 := by kernel_rfl }
open Go.RowKit Go.Sort Go.Lib in
theorem Tryz.strconv_Itoa_small (i : Nat) (hi : i < 100) (w : World) :
  Calls Tryz.prog 78 #[.int .i64 i] w fun e w' => e = .returned (.string ⟨(Lib.decDigits i).toArray⟩) ∧ w' = w := Any.strconv_Itoa_small Tryz.lays171 i hi w
def Tryz.lays146_ren : Go.Shelf.Ren := ⟨fun | 146 => 30 | 221 => 49 | 268 => 96 | 138 => 97 | 143 => 98 | 195 => 116 | 197 => 117 | 218 => 118 | 219 => 119 | 260 => 131 | 217 => 126 | 225 => 132 | 224 => 133 | 267 => 134 | 266 => 142 | 314 => 143 | n => n, fun | 9 => 9 | 31 => 43 | 3 => 3 | 4 => 4 | 0 => 0 | 105 => 146 | 21 => 21 | 5 => 5 | 46 => 151 | 119 => 170 | 139 => 173 | 138 => 172 | 146 => 166 | 51 => 165 | n => n, fun | 1 => 0 | 3 => 1 | 4 => 2 | n => n⟩
theorem Tryz.lays146 : Go.Proofs.Lays.n146 Tryz.prog Tryz.lays146_ren := {
 mixed := by kernel_rfl
 f138 := Tryz.func97.trans (congrArg some (by kernel_rfl))
 f143 := Tryz.func98.trans (congrArg some (by kernel_rfl))
 f146 := Tryz.func30.trans (congrArg some (by kernel_rfl))
 f195 := Tryz.func116.trans (congrArg some (by kernel_rfl))
 f197 := Tryz.func117.trans (congrArg some (by kernel_rfl))
 f217 := Tryz.func126.trans (congrArg some (by kernel_rfl))
 f218 := Tryz.func118.trans (congrArg some (by kernel_rfl))
 f219 := Tryz.func119.trans (congrArg some (by kernel_rfl))
 f221 := Tryz.func49.trans (congrArg some (by kernel_rfl))
 f224 := Tryz.func133.trans (congrArg some (by kernel_rfl))
 f225 := Tryz.func132.trans (congrArg some (by kernel_rfl))
 f260 := Tryz.func131.trans (congrArg some (by kernel_rfl))
 f266 := Tryz.func142.trans (congrArg some (by kernel_rfl))
 f267 := Tryz.func134.trans (congrArg some (by kernel_rfl))
 f268 := Tryz.func96.trans (congrArg some (by kernel_rfl))
 f314 := Tryz.func143.trans (congrArg some (by kernel_rfl))
 t0 := Tryz.underlying0
 a0 := Tryz.isAgg0
 z0 := Tryz.sizeOf0
 v0 := Tryz.zeroValue0
 t3 := Tryz.underlying3
 a3 := Tryz.isAgg3
 z3 := Tryz.sizeOf3
 v3 := Tryz.zeroValue3
 t4 := Tryz.underlying4
 a4 := Tryz.isAgg4
 z4 := Tryz.sizeOf4
 v4 := Tryz.zeroValue4
 t5 := Tryz.underlying5
 a5 := Tryz.isAgg5
 z5 := Tryz.sizeOf5
 v5 := Tryz.zeroValue5
 t9 := Tryz.underlying9
 a9 := Tryz.isAgg9
 z9 := Tryz.sizeOf9
 v9 := Tryz.zeroValue9
 t21 := Tryz.underlying21
 a21 := Tryz.isAgg21
 z21 := Tryz.sizeOf21
 v21 := Tryz.zeroValue21
 t31 := Tryz.underlying43
 a31 := Tryz.isAgg43
 z31 := Tryz.sizeOf43
 v31 := Tryz.zeroValue43
 t46 := Tryz.underlying151
 a46 := Tryz.isAgg151
 z46 := Tryz.sizeOf151
 v46 := Tryz.zeroValue151
 t51 := Tryz.underlying165
 a51 := Tryz.isAgg165
 z51 := Tryz.sizeOf165
 v51 := Tryz.zeroValue165
 t105 := Tryz.underlying146
 a105 := Tryz.isAgg146
 z105 := Tryz.sizeOf146
 v105 := Tryz.zeroValue146
 t119 := Tryz.underlying170
 a119 := Tryz.isAgg170
 z119 := Tryz.sizeOf170
 t138 := Tryz.underlying172
 a138 := Tryz.isAgg172
 z138 := Tryz.sizeOf172
 v138 := Tryz.zeroValue172
 t139 := Tryz.underlying173
 a139 := Tryz.isAgg173
 z139 := Tryz.sizeOf173
 v139 := Tryz.zeroValue173
 t146 := Tryz.underlying166
 a146 := Tryz.isAgg166
 z146 := Tryz.sizeOf166
 v146 := Tryz.zeroValue166
 g1 := by kernel_rfl
 g3 := by kernel_rfl
 g4 := by kernel_rfl }
open Go.RowKit Go.Lib in
theorem Tryz.strings_Split (s sep : ByteArray) (m : Int) (w : World) (hs : s.size < 4294967281) (hm : w.cell? ⟨0, 0, none⟩ = some (.int .i64 m)) (h1 : 1 ≤ sep.size) :
  Calls Tryz.prog 30 #[.string s, .string sep] w fun e w' =>
   e = .returned (.slice (some ⟨w.heap.size, 0, none⟩) (Lib.countB s sep + 1) (Lib.countB s sep + 1)) ∧ w' = w.alloc (.cells ((Lib.splitB sep 0 (Lib.countB s sep) s).map Value.string).toArray 9) := Any.strings_Split Tryz.lays146 (by kernel_rfl) s sep m w hs hm h1
def Tryz.lays105_ren : Go.Shelf.Ren := ⟨fun | 105 => 109 | 212 => 123 | 99 => 124 | 165 => 95 | 166 => 77 | 170 => 125 | 169 => 80 | 263 => 139 | 264 => 140 | 206 => 141 | 240 => 105 | 241 => 115 | 276 => 120 | 277 => 130 | n => n, fun | 9 => 9 | 3 => 3 | 4 => 4 | 20 => 20 | 0 => 0 | 46 => 151 | 109 => 152 | 5 => 5 | 72 => 111 | 76 => 114 | 51 => 165 | 146 => 166 | 53 => 160 | 148 => 168 | 70 => 108 | 37 => 109 | 75 => 113 | 127 => 138 | 164 => 148 | 80 => 117 | n => n, fun | n => n⟩
theorem Tryz.lays105 : Go.Proofs.Lays.n105 Tryz.prog Tryz.lays105_ren := {
 mixed := by kernel_rfl
 f99 := Tryz.func124.trans (congrArg some (by kernel_rfl))
 f105 := Tryz.func109.trans (congrArg some (by kernel_rfl))
 f165 := Tryz.func95.trans (congrArg some (by kernel_rfl))
 f166 := Tryz.func77.trans (congrArg some (by kernel_rfl))
 f169 := Tryz.func80.trans (congrArg some (by kernel_rfl))
 f170 := Tryz.func125.trans (congrArg some (by kernel_rfl))
 f206 := Tryz.func141.trans (congrArg some (by kernel_rfl))
 f212 := Tryz.func123.trans (congrArg some (by kernel_rfl))
 f240 := Tryz.func105.trans (congrArg some (by kernel_rfl))
 f241 := Tryz.func115.trans (congrArg some (by kernel_rfl))
 f263 := Tryz.func139.trans (congrArg some (by kernel_rfl))
 f264 := Tryz.func140.trans (congrArg some (by kernel_rfl))
 f276 := Tryz.func120.trans (congrArg some (by kernel_rfl))
 f277 := Tryz.func130.trans (congrArg some (by kernel_rfl))
 t0 := Tryz.underlying0
 a0 := Tryz.isAgg0
 z0 := Tryz.sizeOf0
 v0 := Tryz.zeroValue0
 t3 := Tryz.underlying3
 a3 := Tryz.isAgg3
 z3 := Tryz.sizeOf3
 v3 := Tryz.zeroValue3
 t4 := Tryz.underlying4
 a4 := Tryz.isAgg4
 z4 := Tryz.sizeOf4
 v4 := Tryz.zeroValue4
 t5 := Tryz.underlying5
 a5 := Tryz.isAgg5
 z5 := Tryz.sizeOf5
 v5 := Tryz.zeroValue5
 t9 := Tryz.underlying9
 a9 := Tryz.isAgg9
 z9 := Tryz.sizeOf9
 v9 := Tryz.zeroValue9
 t20 := Tryz.underlying20
 a20 := Tryz.isAgg20
 z20 := Tryz.sizeOf20
 v20 := Tryz.zeroValue20
 t37 := Tryz.underlying109
 a37 := Tryz.isAgg109
 z37 := Tryz.sizeOf109
 v37 := Tryz.zeroValue109
 t46 := Tryz.underlying151
 a46 := Tryz.isAgg151
 z46 := Tryz.sizeOf151
 v46 := Tryz.zeroValue151
 t51 := Tryz.underlying165
 a51 := Tryz.isAgg165
 z51 := Tryz.sizeOf165
 v51 := Tryz.zeroValue165
 t53 := Tryz.underlying160
 a53 := Tryz.isAgg160
 z53 := Tryz.sizeOf160
 v53 := Tryz.zeroValue160
 t70 := Tryz.underlying108
 a70 := Tryz.isAgg108
 z70 := Tryz.sizeOf108
 v70 := Tryz.zeroValue108
 t72 := Tryz.underlying111
 a72 := Tryz.isAgg111
 z72 := Tryz.sizeOf111
 v72 := Tryz.zeroValue111
 t75 := Tryz.underlying113
 a75 := Tryz.isAgg113
 z75 := Tryz.sizeOf113
 v75 := Tryz.zeroValue113
 t76 := Tryz.underlying114
 a76 := Tryz.isAgg114
 z76 := Tryz.sizeOf114
 v76 := Tryz.zeroValue114
 t109 := Tryz.underlying152
 a109 := Tryz.isAgg152
 z109 := Tryz.sizeOf152
 v109 := Tryz.zeroValue152
 t127 := Tryz.underlying138
 a127 := Tryz.isAgg138
 z127 := Tryz.sizeOf138
 v127 := Tryz.zeroValue138
 t146 := Tryz.underlying166
 a146 := Tryz.isAgg166
 z146 := Tryz.sizeOf166
 v146 := Tryz.zeroValue166
 t148 := Tryz.underlying168
 a148 := Tryz.isAgg168
 z148 := Tryz.sizeOf168
 v148 := Tryz.zeroValue168
 t164 := Tryz.underlying148
 a164 := Tryz.isAgg148
 z164 := Tryz.sizeOf148
 v164 := Tryz.zeroValue148 }
theorem Tryz.Builder_Extra_105 : Builder.Extra Tryz.prog Tryz.lays105_ren := {
 sizeBuilder := by kernel_rfl
 liesBuilder := by kernel_rfl
 t5 := Tryz.underlying5
 a5 := Tryz.isAgg5
 z5 := Tryz.sizeOf5
 v5 := Tryz.zeroValue5
 infoByte := by kernel_rfl
 cellsByte := by kernel_rfl
 sizeByte := by kernel_rfl
 neB5 := by decide }
open Go.RowKit Go.Lib in
theorem Tryz.strings_Repeat (s : ByteArray) (c : Nat) (w : World) (hc : c ≤ 9223372036854775807) (hlen : s.size * c ≤ 140737488355328) :
  Calls Tryz.prog 109 #[.string s, .int .i64 c] w fun e w' => e = .returned (.string ⟨(Lib.repeatL s.data.toList c).toArray⟩) ∧ Below w.heap.size w w' := Any.strings_Repeat Tryz.lays105 Tryz.Builder_Extra_105 s c w hc hlen
end Go.Proofs
namespace Go.Proofs
open Go.RowKit Go.Shelf
set_option maxHeartbeats 4000000 in
set_option maxRecDepth 1000000 in
theorem bld_used (b : Nat) (w : World) (h0 : w.cell? ⟨b, 0, none⟩ = some (.pointer (some ⟨b, 0, none⟩))) :
  Calls Tryz.prog 105 #[.pointer (some ⟨b, 0, none⟩)] w fun e w' => e = .returned (.tuple #[]) ∧ w' = w := by
 obtain ⟨j, hj, hjs⟩ := Option.map_eq_some_iff.1 Tryz.Builder_Extra_156.sizeBuilder
 go_enter Tryz.func105, Tryz.ntmps105
 go_wp2
 rw [Lib.run_neq_ptr_same w _ Tryz.underlying108 hj]
 go_wp2
 go_end0
 exact ⟨rfl, rfl⟩
set_option maxHeartbeats 4000000 in
set_option maxRecDepth 1000000 in
theorem bld_fresh (b : Nat) (w : World) (h0 : w.cell? ⟨b, 0, none⟩ = some (.pointer none)) (hsh : w.shape? b = some (111, 2)) (hfz : w.frozen? ⟨b, 0, none⟩ = false) :
  Calls Tryz.prog 105 #[.pointer (some ⟨b, 0, none⟩)] w fun e w' => e = .returned (.tuple #[]) ∧ w' = w.setCell ⟨b, 0, none⟩ (.pointer (some ⟨b, 0, none⟩)) := by
 have X : Builder.X72 Tryz.prog Tryz.lays156_ren := Tryz.Builder_Extra_156.toX72;obtain ⟨j, hj, hjs⟩ := Option.map_eq_some_iff.1 X.sizeBuilder
 go_enter Tryz.func105, Tryz.ntmps105
 go_wp2
 rw [Lib.run_to_unsafe w ⟨b, 0, none⟩ Tryz.underlying108 Tryz.underlying148 hj (by rw [hjs]; decide) hsh (Nat.zero_lt_succ 1)];simp only [Result.andThen];rw [Oper.upon_value]
 go_wp2
 rw [run_callFunc_extern Tryz.func120 (by kernel_rfl) (by kernel_rfl) (by kernel_rfl) (e := Extern.AbiNoEscape.same) (by kernel_rfl)];rw [Lib.run_noEscape];simp only [Result.andThen];rw [Oper.upon_value]
 go_wp2
 rw [Lib.run_from_unsafe w ⟨b, 0, none⟩ Tryz.underlying148 Tryz.underlying108 hj hsh X.liesBuilder];simp only [Result.andThen];rw [Oper.upon_value]
 go_wp2
 go_end0
 exact ⟨rfl, rfl⟩
theorem bld_check (B b : Nat) (bs : List Value) (w : World) (h : Lib.IsBuilder 111 5 B b bs w) :
  Calls Tryz.prog 105 #[.pointer (some ⟨b, 0, none⟩)] w fun e w' => e = .returned (.tuple #[]) ∧ (Lib.BuilderAt 111 5 B b (.pointer (some ⟨b, 0, none⟩)) bs w' ∧ Below B w w') := by
 rcases h with h | h
 ·refine (bld_fresh b w h.cell0 h.shape h.frozen0).mono ?_;rintro e w' ⟨rfl, rfl⟩;exact ⟨rfl, h.used _, (Below.refl B w).setCell (p := ⟨b, 0, none⟩) h.1 _⟩
 ·refine (bld_used b w h.cell0).mono ?_;rintro e w' ⟨rfl, rfl⟩;exact ⟨rfl, h, Below.refl B _⟩
set_option maxHeartbeats 4000000 in
set_option maxRecDepth 1000000 in
theorem bld_byte (B b : Nat) (bs : List Value) (c : Int) (w : World) (h : Lib.IsBuilder 111 5 B b bs w) (hlen : bs.length + 1 ≤ 140737488355328) (hBw : B ≤ w.heap.size) :
  Calls Tryz.prog 79 #[.pointer (some ⟨b, 0, none⟩), .int .u8 c] w fun e w' => e = .returned .nilIface ∧ (Lib.BuilderAt 111 5 B b (.pointer (some ⟨b, 0, none⟩)) (bs ++ [.int .u8 c]) w' ∧ Below B w w') := by
 have X := Tryz.Builder_Extra_156;obtain ⟨i0, hi, hz0, hz1, hz2⟩ := info_parts X.infoByte;have e105 : ∀ args w, (callFunc 105 args).run Tryz.prog w = .ok (.enter 105 args) w := enters_of Tryz.func105 (by kernel_rfl) rfl
 go_enter Tryz.func79, Tryz.ntmps79
 go_wp2_with (go_at_fn 105; refine (bld_check B b bs _ h).mono ?_)
 rintro e w1 ⟨rfl, h1, hb1⟩;obtain ⟨hB, v, hbk, hown, hne⟩ := h1
 have c0 : w1.cell? ⟨b, 0, none⟩ = some (.pointer (some ⟨b, 0, none⟩)) := by rw [Lib.cell_of_heap hbk]; rfl
 have c1 : w1.cell? ⟨b, 1, none⟩ = some v := by rw [Lib.cell_of_heap hbk]; rfl
 go_wp2_with (at_builtin; refine wpList_append_own _ rfl _ _ 109 rfl B 5 i0 (.int .u8 0) 1 1 Tryz.underlying109 hi hz0 hz1 hz2 rfl (by decide) _ _ _ rfl (hown.alloc _) ⟨w1.heap.size, 0, none⟩ 1 1 [.int .u8 c] rfl rfl ?c1 ?c2 ?c3 ?c4 ?c5 ?_)
 case c1 =>
  intro j u hj
  match j, hj with
  | 0, hj => simp at hj; subst hj; simp [Addr.add]
 case c2 => intro u hu; simp at hu; subst hu; rfl
 case c3 => unfold maxLen; omega
 case c4 => omega
 case c5 => have := hb1.size; simp; omega
 intro v' w2 hown' hgrow _;have hlt : b < w1.heap.size := (Array.getElem?_eq_some_iff.1 hbk).1
 have hb2 : w2.heap[b]? = some (.cells #[.pointer (some ⟨b, 0, none⟩), v] 111 (0, 0)) := by
  rw [hgrow.block b (by simp; omega) (fun e => hne e.symm), Lib.alloc_old w1 _ b hlt];exact hbk
 have d1 : w2.cell? ⟨b, 1, none⟩ = some v := by rw [Lib.cell_of_heap hb2]; rfl
 have f1 : w2.frozen? ⟨b, 1, none⟩ = false := Lib.frozen_of_heap hb2 1
 obtain ⟨g, cap, rfl⟩ : ∃ g cap, v' = .slice (some ⟨g, 0, none⟩) (bs.length + 1) cap := by
  rcases hown'.2 with ⟨_, h0⟩ | ⟨g, cap, cur, hv, _⟩
  ·omega
  ·exact ⟨g, cap, hv⟩
 go_wp2
 go_ret
 refine ⟨rfl, ?_, ?_⟩
 ·exact Lib.BuilderAt.put (T := 111) (e := 5) hB hb2 (bs' := bs ++ [.int .u8 c]) (by simpa using hown') X.neB5
 ·exact ((hb1.alloc (by have := hb1.size; omega) _).grown hgrow (by have := hb1.size; simp; omega) (fun k hk => (hown.lt k hk).1)).setCell (p := ⟨b, 1, none⟩) hB _
end Go.Proofs
namespace Go.Sim
section
variable {E : Env} {w0 : World} {M0 : Nat → Prop}
def tvGround : TV → Bool
 | .g _ => true
 | _ => false
def Blk.ground : Blk → Bool
 | .box cs => cs.all tvGround
 | .tbox _ cs => cs.all tvGround
 | _ => true
theorem trel_ground {w : World} {M : Nat → Prop} {ρ ρ' : Rho} {tv : TV} {v : Value} (h : tvGround tv = true) (k : TRel w M ρ tv v) : TRel w M ρ' tv v := by
 cases tv <;> first | exact k | cases h
theorem tfits_ground {w : World} {M : Nat → Prop} {ρ ρ' : Rho} : ∀ {cs : List TV} {vs : List Value}, cs.all tvGround = true → TFits w M ρ cs vs → TFits w M ρ' cs vs
 | [], [], _, h => h
 | c :: cs, v :: vs, hg, h => by
  simp only [List.all_cons, Bool.and_eq_true] at hg;exact ⟨⟨trel_ground hg.1 h.1.1, h.1.2⟩, tfits_ground hg.2 h.2⟩
 | [], _ :: _, _, h => h.elim
 | _ :: _, [], _, h => h.elim
theorem BRel.ground {w : World} {M : Nat → Prop} {ρ ρ' : Rho} {id id' : Nat} {blk : Blk} (hg : blk.ground = true) (he : ρ' id' = ρ id) (h : BRel w M ρ id blk) : BRel w M ρ' id' blk := by
 cases blk with
 | box cs => obtain ⟨ow, e, vs, h1, h2, h3, h4⟩ := h; exact ⟨ow, e, vs, he.trans h1, h2, h3, tfits_ground hg h4⟩
 | arr e k xs =>
  rcases h with ⟨h1, h2⟩ | ⟨ow, vs, h1, h2⟩
  ·exact .inl ⟨he.trans h1, h2⟩
  ·exact .inr ⟨ow, vs, he.trans h1, h2⟩
 | mp es => obtain ⟨ow, en, cl, h1, h2⟩ := h; exact ⟨ow, en, cl, he.trans h1, h2⟩
 | obj o => obtain ⟨ow, h1, h2⟩ := h; exact ⟨ow, he.trans h1, h2⟩
 | mit es seen => obtain ⟨ow, h1, h2⟩ := h; exact ⟨ow, he.trans h1, h2⟩
 | tbox T cs => obtain ⟨ow, vs, h1, h2, h3, h4⟩ := h; exact ⟨ow, vs, he.trans h1, h2, h3, tfits_ground hg h4⟩
 | buf e bs =>
  rcases h with ⟨h1, h2⟩ | ⟨ow, cur, h1, h2⟩
  ·exact .inl ⟨he.trans h1, h2⟩
  ·exact .inr ⟨ow, cur, he.trans h1, h2⟩
 | gone => trivial
theorem BRel.has {w : World} {M : Nat → Prop} {ρ : Rho} {id : Nat} {blk : Blk} (hg : blk.live = true) (h : BRel w M ρ id blk) : ∃ x, ρ id = some x := by
 cases blk with
 | box cs => obtain ⟨ow, e, vs, h1, _⟩ := h; exact ⟨_, h1⟩
 | arr e k xs =>
  rcases h with ⟨h1, _⟩ | ⟨ow, vs, h1, _⟩
  ·exact ⟨_, h1⟩
  ·exact ⟨_, h1⟩
 | mp es => obtain ⟨ow, en, cl, h1, _⟩ := h; exact ⟨_, h1⟩
 | obj o => obtain ⟨ow, h1, _⟩ := h; exact ⟨_, h1⟩
 | mit es seen => obtain ⟨ow, h1, _⟩ := h; exact ⟨_, h1⟩
 | tbox T cs => obtain ⟨ow, vs, h1, _⟩ := h; exact ⟨_, h1⟩
 | buf e bs =>
  rcases h with ⟨h1, _⟩ | ⟨ow, cur, h1, _⟩
  ·exact ⟨_, h1⟩
  ·exact ⟨_, h1⟩
 | gone => cases hg
theorem BRel.sub {w : World} {M M' : Nat → Prop} {ρ : Rho} {id : Nat} {blk : Blk} (h : BRel w M ρ id blk) (hM : ∀ b, M' b → M b) : BRel w M' ρ id blk :=
 h.mono none (by simp) (noref_none _) (fun _ _ => rfl) (fun _ _ _ => rfl) (fun b _ => hM b) (fun _ _ _ => rfl)
theorem BelowX.mono {L L' : Nat → Prop} {a b : World} (h : BelowX L a b) (hl : ∀ k, L k → L' k) : BelowX L' a b := ⟨h.os, h.tape, h.output, h.size, fun k hk hn => h.block k hk fun h => hn (hl k h)⟩
def ArgsT (w : World) (M : Nat → Prop) (ρ : Rho) : List TV → List Value → Prop
 | [], [] => True
 | c :: cs, v :: vs => TRel w M ρ c v ∧ ArgsT w M ρ cs vs
 | _, _ => False
theorem ArgsT.length {w : World} {M : Nat → Prop} {ρ : Rho} : ∀ {cs : List TV} {vs : List Value}, ArgsT w M ρ cs vs → vs.length = cs.length
 | [], [], _ => rfl
 | _ :: _, _ :: _, h => by simp [ArgsT.length h.2]
 | [], _ :: _, h => h.elim
 | _ :: _, [], h => h.elim
def ConB (E : Env) (f : FuncId) (args : List TV) (mem : Mem) (r : G) (mem' : Mem) : Prop :=
 ∀ w M ρ (vs : List Value), (∀ b, M b → b < w.heap.size) → GlOk E w (owned M ρ) → (∀ id x, ρ id = some x → ∃ blk, lookO mem id = some blk) →
  (∀ id ow, ρ id = some (some ow) → ow.b < w.heap.size ∧ ¬ M ow.b) → (∀ id id' ow ow', ρ id = some (some ow) → ρ id' = some (some ow') → ow.b = ow'.b → id = id') →
  (∀ id blk, lookO mem id = some blk → BRel w (owned M ρ) ρ id blk) → ArgsT w (owned M ρ) ρ args vs →
  Calls E.P f vs.toArray w fun e w' => ∃ v, e = .returned v ∧ BelowX (fun b => ∃ id ow, ρ id = some (some ow) ∧ ow.b = b) w w' ∧ (∀ id blk, (id, blk) ∈ mem' → BRel w' (owned M ρ) ρ id blk) ∧ r.p w' (owned M ρ) v
def Env.lend (E : Env) (mem : Mem) (x : Nat → Option Own) : Env := ⟨E.P, E.gl, E.orders, mem.map fun p => (p.1, x p.1), E.rnd, E.mks, E.nb⟩
theorem Con.lend {f : FuncId} {args : List G} {r : G} {mem : Mem} {x : Nat → Option Own} (h : Con E f args r) : Con (E.lend mem x) f args r := h
theorem ConB.lend {f : FuncId} {args : List TV} {r : G} {m m' : Mem} {mem : Mem} {x : Nat → Option Own} (h : ConB E f args m r m') : ConB (E.lend mem x) f args m r m' := h
theorem lookO_mapk {α β : Type} (x : Nat → β) : ∀ {l : List (Nat × α)} {id : Nat} {y : β}, lookO (l.map fun p => (p.1, x p.1)) id = some y ↔ (∃ b, lookO l id = some b) ∧ y = x id
 | [], id, y => by simp [lookO]
 | (k, b) :: r, id, y => by
  simp only [List.map_cons, lookO]
  rcases Bool.eq_false_or_eq_true (Nat.beq k id) with hk | hk
  ·rw [hk];have := Nat.eq_of_beq_eq_true hk;subst this
   simp [eq_comm]
  ·rw [hk]; exact lookO_mapk x
def initTV : List TV → Nat → TV
 | [], _ => .g (.lit undef)
 | x :: _, 0 => x
 | _ :: xs, i + 1 => initTV xs i
theorem look_mem {m : Mem} {id : Nat} (h : id ∈ m.map (·.1)) : ∃ b, lookO m id = some b := by
 induction m with
 | nil => cases h
 | cons q m ih =>
  obtain ⟨k, v⟩ := q;simp only [lookO]
  rcases Bool.eq_false_or_eq_true (Nat.beq k id) with hk | hk
  ·rw [hk]; exact ⟨v, rfl⟩
  ·rw [hk]
   rcases List.mem_cons.1 h with h | h
   ·simp only at h; subst h; rw [Nat.beq_refl] at hk; cases hk
   ·exact ih h
theorem mapk_mem {m : Mem} {x : Nat → Option Own} {id : Nat} {y : Option Own} (h : (id, y) ∈ m.map fun p => (p.1, x p.1)) : lookO (m.map fun p => (p.1, x p.1)) id = some y := by
 obtain ⟨q, h1, h2⟩ := List.mem_map.1 h
 cases h2
 exact (lookO_mapk x).2 ⟨look_mem (List.mem_map_of_mem (f := (·.1)) h1), rfl⟩
theorem initTV_rel {w : World} {M : Nat → Prop} {ρ : Rho} : ∀ {xs : List TV} {vs : List Value} (m : Nat), ArgsT w M ρ xs vs → ∀ i, TRel w M ρ (initTV xs i) ((vs ++ List.replicate m undef)[i]?.getD undef)
 | [], [], m, _, i => by
  show _ = _;simp only [List.nil_append, List.getElem?_replicate]
  split <;> rfl
 | x :: xs, v :: vs, m, h, 0 => by exact h.1
 | x :: xs, v :: vs, m, h, i + 1 => by
  have := initTV_rel m h.2 i
  simpa [initTV] using this
 | [], _ :: _, _, h, _ => h.elim
 | _ :: _, [], _, h, _ => h.elim
theorem memL_mem {s : ASt} : ∀ {m : Mem}, MemL s m → ∀ {i : Nat} {b : Blk}, (i, b) ∈ m → lookO s.mem i = some b
 | [], _, _, _, h => by cases h
 | (k, v) :: r, h, i, b, hb => by
  rcases List.mem_cons.1 hb with e | hb
  ·cases e; exact h.1
  ·exact memL_mem h.2 hb
def DoneB (E : Env) (fn : Func) (r : G) (mem' : Mem) : Exit → ASt → Prop
 | .ret, s | .normal, s => ResOk E fn s r ∧ MemL s mem'
 | _, _ => False
def lendable (mem mem' : Mem) : Bool := mem.all (fun p => p.2.live) && mem'.all (fun p => (lookO mem p.1).isSome && p.2.ground)
theorem conB_of_aw {f : FuncId} {fn : Func} {c : Code} {args : List TV} {mem mem' : Mem} {r : G} (hf : E.P.funcs[f]? = some fn) (hb : fn.body = some c) (hn0 : Nat.ble args.length fn.ntmps = true) (hl : lendable mem mem' = true)
  (h : ∀ w0 M0 x, AWp (E.lend mem x) w0 M0 c (DoneB (E.lend mem x) fn r mem') ⟨fn.ntmps, initTV args, mem⟩) (hrn : E.rnd = none := by rfl) (hdf : E.mks = false := by rfl) (hnb : E.nb = 0 := by rfl) : ConB E f args mem r mem' := by
 intro w M ρ vs hM hgl hdom hown hinj hblk hv;simp only [lendable, Bool.and_eq_true, List.all_eq_true] at hl;have hn := Nat.le_of_ble_eq_true hn0;have hlen := hv.length
 let x : Nat → Option Own := fun id => (ρ id).getD none
 have hx : ∀ id y, ρ id = some y → x id = y := fun id y h => by simp only [x, h, Option.getD_some]
 have hkeep : ∀ id y, lookO (E.lend mem x).bow id = some y → ρ id = some y := by
  intro id y h;obtain ⟨⟨b, h1⟩, rfl⟩ := (lookO_mapk x).1 h;obtain ⟨z, hz⟩ := (hblk id b h1).has (hl.1 _ (lookO_mem _ h1));rw [hx id z hz]; exact hz
 have hkeepM : ∀ id y, (id, y) ∈ (E.lend mem x).bow → ρ id = some y := fun id y h => hkeep id y (mapk_mem h);have hback : ∀ id y, ρ id = some y → lookO (E.lend mem x).bow id = some y := fun id y h => (lookO_mapk x).2 ⟨hdom id y h, (hx id y h).symm⟩;refine calls_of_wp hf hb ?_
 have ha : ARel (E.lend mem x) w M ⟨fn.ntmps, initTV args, mem⟩ { tmps := vs.toArray ++ Array.replicate (fn.ntmps - vs.toArray.size) undef, defers := [] } w := by
  refine ⟨fun _ => rfl, ?_, ρ, ?_, Marks.nil, ?_⟩
  ·simp; omega
  ·exact ⟨BelowX.refl _ w, hM, hgl, hdom, fun id ow ho => ⟨.inr ⟨id, ow, lookO_mem _ (hback id _ ho), rfl⟩, (hown id ow ho).1⟩, hinj, hkeep, ⟨fun b ⟨id, ow, h1, h2⟩ => h2 ▸ (hown id ow (hkeep id _ h1)).2, Nat.le_trans (Nat.le_of_eq hnb) (Nat.zero_le _)⟩, hblk⟩
  ·intro i;have := initTV_rel (fn.ntmps - vs.length) hv i;show TRel _ _ _ (initTV args i) _;rw [Array.getD_eq_getD_getElem?];rw [show (vs.toArray ++ Array.replicate (fn.ntmps - vs.toArray.size) undef) = (vs ++ List.replicate (fn.ntmps - vs.length) undef).toArray by simp];rw [List.getElem?_toArray];exact this
 refine wp_mono (wp_env (E := E.lend mem x) (h w M x _ w ha) hrn) ?_;rintro e a' w' ⟨s', ha', hq⟩
 have fin : ResOk (E.lend mem x) fn s' r ∧ MemL s' mem' → a'.defers = [] ∧ ∃ v, (results fn a'.tmps).run E.P w' = .ok v w' ∧ (∃ u, Ending.returned v = .returned u ∧ BelowX (fun b => ∃ id ow, ρ id = some (some ow) ∧ ow.b = b) w w' ∧ (∀ id blk, (id, blk) ∈ mem' → BRel w' (owned M ρ) ρ id blk) ∧ r.p w' (owned M ρ) u) := by
  rintro ⟨hq, hm'⟩;obtain ⟨ρf, hm, _, ht⟩ := ha'.ex;obtain ⟨v, h1, h2, _⟩ := hq.run ρf w' a'.tmps hm ht
  have hsub : ∀ b, owned M ρ b → owned M ρf b := by
   rintro b (h | ⟨id, o, h, rfl⟩)
   ·exact .inl h
   ·exact .inr ⟨id, o, hm.keep id _ (hback id _ h), rfl⟩
  refine ⟨ha'.defers hdf, v, h1, v, rfl, hm.below.mono (fun b ⟨id, ow, h3, h4⟩ => ⟨id, ow, hkeepM id _ h3, h4⟩), fun id blk hi => ?_, r.mono h2 (fun _ _ _ => rfl) (fun b _ hb => ?_)⟩
  ·have h3 := hl.2 _ hi;simp only [Bool.and_eq_true] at h3;refine BRel.ground h3.2 ?_ ((hm.blk id blk (memL_mem hm' hi)).sub hsub)
   cases h4 : lookO mem id with
   | none => rw [h4] at h3; cases h3.1
   | some b =>
    obtain ⟨z, hz⟩ := (hblk id b h4).has (hl.1 _ (lookO_mem _ h4));rw [hz, hm.keep id z (hback id z hz)]
  ·rcases hb with hb | ⟨id, o, hb, rfl⟩
   ·exact .inl hb
   ·exact .inr ⟨id, o, hback id _ hb, rfl⟩
 cases e with
 | ret => exact fin hq
 | normal => exact fin hq
 | _ => exact hq.elim
def renT (σ : List (Nat × Nat)) : TV → Option TV
 | .g x => some (.g x)
 | .ptr p o => (lookO σ p).map fun c => .ptr c o
 | .osl p k lo hi => (lookO σ p).map fun c => .osl c k lo hi
 | .omap p => (lookO σ p).map fun c => .omap c
 | _ => none
def LendL (σ : List (Nat × Nat)) (mem : Mem) : Mem → Prop
 | [] => True
 | (p, blk) :: r => (∃ c, lookO σ p = some c ∧ lookO mem c = some blk ∧ blk.ground = true) ∧ LendL σ mem r
def nodupB : List Nat → Bool
 | [] => true
 | x :: l => l.all (fun y => !Nat.beq x y) && nodupB l
def lendOk (σ : List (Nat × Nat)) (memc memc' : Mem) : Bool :=
 nodupB (σ.map (·.2)) && (σ.all (fun p => (lookO memc p.1).isSome && memc'.any (fun q => Nat.beq q.1 p.1)) && memc'.all (fun p => (lookO σ p.1).isSome && p.2.ground))
def renM (σ : List (Nat × Nat)) (m : Mem) : Mem := m.map fun p => ((lookO σ p.1).getD 0, p.2)
theorem lend_look {σ : List (Nat × Nat)} {mem : Mem} : ∀ {mc : Mem}, LendL σ mem mc → ∀ {p : Nat} {blk : Blk}, lookO mc p = some blk → ∃ c, lookO σ p = some c ∧ lookO mem c = some blk ∧ blk.ground = true
 | (k, b) :: r, h, p, blk, hb => by
  simp only [lookO] at hb
  rcases Bool.eq_false_or_eq_true (Nat.beq k p) with hk | hk
  ·rw [hk] at hb;have := Nat.eq_of_beq_eq_true hk;subst this
   simp at hb; subst hb
   exact h.1
  ·rw [hk] at hb; exact lend_look h.2 hb
 | [], _, _, _, hb => by cases hb
theorem sigma_inj : ∀ {σ : List (Nat × Nat)}, nodupB (σ.map (·.2)) = true → ∀ {p q c : Nat}, (p, c) ∈ σ → (q, c) ∈ σ → p = q
 | [], _, _, _, _, h, _ => by cases h
 | (a, b) :: r, hn, p, q, c, h1, h2 => by
  simp only [List.map_cons, nodupB, Bool.and_eq_true, List.all_eq_true, List.mem_map, forall_exists_index, and_imp] at hn
  have key : ∀ x, (x, b) ∈ r → False := fun x hx => by have := hn.1 b (x, b) hx rfl; simp at this
  rcases List.mem_cons.1 h1 with e1 | h1 <;> rcases List.mem_cons.1 h2 with e2 | h2
  ·cases e1; cases e2; rfl
  ·cases e1; exact (key _ h2).elim
  ·cases e2; exact (key _ h1).elim
  ·exact sigma_inj hn.2 h1 h2
theorem args_ren {w : World} {M : Nat → Prop} {ρ ρc : Rho} {σ : List (Nat × Nat)} {ev : Operand → TV} {e : Operand → Value} (hρ : ∀ p c, lookO σ p = some c → ρc p = ρ c) : ∀ {aps : List Operand} {args : List TV}, (∀ x ∈ aps, TRel w M ρ (ev x) (e x)) →
  aps.map (fun x => some (ev x)) = args.map (renT σ) → ArgsT w M ρc args (aps.map e)
 | [], [], _, _ => trivial
 | x :: aps, y :: args, h, he => by
  simp only [List.map_cons, List.cons.injEq] at he;refine ⟨?_, args_ren hρ (fun z hz => h z (List.mem_cons_of_mem _ hz)) he.2⟩;have h1 := h x List.mem_cons_self;have h2 := he.1
  cases y with
  | g q => simp only [renT, Option.some.injEq] at h2; rw [h2] at h1; exact h1
  | ptr p o =>
   cases hp : lookO σ p with
   | none => simp [renT, hp] at h2
   | some c =>
    simp [renT, hp] at h2; rw [h2] at h1
    obtain ⟨ow, h3, h4⟩ := h1;exact ⟨ow, (hρ p c hp).trans h3, h4⟩
  | osl p k lo hi =>
   cases hp : lookO σ p with
   | none => simp [renT, hp] at h2
   | some c =>
    simp [renT, hp] at h2; rw [h2] at h1
    rcases h1 with ⟨h3, h4⟩ | ⟨ow, h3, h4⟩
    ·exact .inl ⟨(hρ p c hp).trans h3, h4⟩
    ·exact .inr ⟨ow, (hρ p c hp).trans h3, h4⟩
  | omap p =>
   cases hp : lookO σ p with
   | none => simp [renT, hp] at h2
   | some c =>
    simp [renT, hp] at h2; rw [h2] at h1
    obtain ⟨ow, h3, h4⟩ := h1;exact ⟨ow, (hρ p c hp).trans h3, h4⟩
  | eptr => simp [renT] at h2
  | agl => simp [renT] at h2
  | tgl => simp [renT] at h2
  | fnp => simp [renT] at h2
  | tsl => simp [renT] at h2
  | any => simp [renT] at h2
 | [], _ :: _, _, he => by simp at he
 | _ :: _, [], _, he => by simp at he
theorem lookO_renM {σ : List (Nat × Nat)} {mem : Mem} {id : Nat} {blk : Blk} : ∀ {m : Mem}, lookO (renM σ m ++ mem) id = some blk → (∃ p, (p, blk) ∈ m ∧ (lookO σ p).getD 0 = id) ∨ ((∀ q ∈ m, (lookO σ q.1).getD 0 ≠ id) ∧ lookO mem id = some blk)
 | [], h => .inr ⟨by simp, h⟩
 | (k, b) :: r, h => by
  simp only [renM, List.map_cons, List.cons_append, lookO] at h
  rcases Bool.eq_false_or_eq_true (Nat.beq ((lookO σ k).getD 0) id) with hk | hk
  ·rw [hk] at h
   simp at h; subst h
   exact .inl ⟨k, List.mem_cons_self, Nat.eq_of_beq_eq_true hk⟩
  ·rw [hk] at h
   rcases lookO_renM (m := r) h with ⟨p, h1, h2⟩ | ⟨h1, h2⟩
   ·exact .inl ⟨p, List.mem_cons_of_mem _ h1, h2⟩
   ·refine .inr ⟨fun q hq => ?_, h2⟩
    rcases List.mem_cons.1 hq with rfl | hq
    ·intro e; rw [show Nat.beq ((lookO σ k).getD 0) id = true by rw [← e]; exact Nat.beq_refl _] at hk; cases hk
    ·exact h1 q hq
theorem lookO_app {α : Type} {l m : List (Nat × α)} {id : Nat} {b : α} (h : lookO m id = some b) : ∃ b', lookO (l ++ m) id = some b' := by
 induction l with
 | nil => exact ⟨b, h⟩
 | cons p l ih =>
  obtain ⟨k, v⟩ := p;simp only [List.cons_append, lookO]
  cases Nat.beq k id with
  | true => exact ⟨v, rfl⟩
  | false => exact ih
theorem upon_callB {f : FuncId} {args : List TV} {memc memc' : Mem} {r : G} {vs : List Value} {ρ : Rho} {mem : Mem} {w : World} {res : Result Next} (σ : List (Nat × Nat)) (hc : ConB E f args memc r memc') (hm : MRel E w0 M0 ρ mem w)
  (hl : LendL σ mem memc) (hσ : lendOk σ memc memc' = true) (hv : ∀ ρc : Rho, (∀ p c, lookO σ p = some c → ρc p = ρ c) → ArgsT w (owned M0 ρ) ρc args vs)
  (hres : res = .ok (.enter f vs.toArray) w) : UponW E w0 M0 ρ w (renM σ memc' ++ mem) (.g r) none res := by
 subst hres;simp only [lendOk, Bool.and_eq_true, List.all_eq_true, List.any_eq_true] at hσ;obtain ⟨s1, s2, s3⟩ := hσ
 let ρc : Rho := fun p => (lookO σ p).bind ρ
 have hρc : ∀ p c, lookO σ p = some c → ρc p = ρ c := fun p c h => by simp only [ρc, h, Option.bind_some]
 have hρc' : ∀ p x, ρc p = some x → ∃ c, lookO σ p = some c ∧ ρ c = some x := by
  intro p x h;simp only [ρc] at h
  cases hp : lookO σ p with
  | none => rw [hp] at h; cases h
  | some c => rw [hp] at h; exact ⟨c, rfl, h⟩
 let M : Nat → Prop := fun b => owned M0 ρ b ∧ ¬ ∃ p ow, ρc p = some (some ow) ∧ ow.b = b
 have hown : owned M ρc = owned M0 ρ := by
  funext b
  apply propext
  constructor
  ·rintro (h | ⟨p, o, h, rfl⟩)
   ·exact h.1
   ·obtain ⟨c, _, h2⟩ := hρc' p _ h;exact .inr ⟨c, o, h2, rfl⟩
  ·intro h
   by_cases hb : ∃ p ow, ρc p = some (some ow) ∧ ow.b = b
   ·obtain ⟨p, ow, h1, h2⟩ := hb; exact .inr ⟨p, ow, h1, h2⟩
   ·exact .inl ⟨h, hb⟩
 have hinj : ∀ id id' ow ow', ρc id = some (some ow) → ρc id' = some (some ow') → ow.b = ow'.b → id = id' := by
  intro p q ow ow' h1 h2 h3;obtain ⟨c, c1, c2⟩ := hρc' p _ h1;obtain ⟨d, d1, d2⟩ := hρc' q _ h2;have := hm.inj c d ow ow' c2 d2 h3;subst this;exact sigma_inj s1 (lookO_mem _ c1) (lookO_mem _ d1)
 have hcall := hc w M ρc vs (fun b h => hm.lt b h.1) (by rw [hown]; exact hm.glob)
  (fun p x h => by
   obtain ⟨c, c1, _⟩ := hρc' p x h;have := (s2 (p, c) (lookO_mem _ c1)).1
   exact Option.isSome_iff_exists.1 this)
  (fun p ow h => by
   obtain ⟨c, _, c2⟩ := hρc' p _ h
   exact ⟨(hm.fresh c ow c2).2, fun hM => hM.2 ⟨p, ow, h, rfl⟩⟩)
  hinj
  (fun p blk h => by
   obtain ⟨c, c1, c2, c3⟩ := lend_look hl h;rw [hown]
   exact BRel.ground c3 (hρc p c c1) (hm.blk c blk c2))
  (by rw [hown]; exact hv ρc hρc)
 rw [hown] at hcall;refine hcall.mono ?_;rintro e w' ⟨v, rfl, hb, hblk, hr⟩
 have hlow : ∀ b, b < w.heap.size → ¬ owned M0 ρ b → w'.heap[b]? = w.heap[b]? := fun b hlt hno => hb.block b hlt (by
  rintro ⟨p, ow, h1, rfl⟩;obtain ⟨c, _, c2⟩ := hρc' p _ h1
  exact hno (.inr ⟨c, ow, c2, rfl⟩))
 refine ⟨v, rfl, ρ, ⟨?_, hm.m0, hm.glob.grow hb.size hlow, ?_, ?_, hm.inj, hm.keep, hm.lentM, ?_⟩, fun tv u hn h => h.mono none hn hlow (fun _ _ h => h) (fun _ _ _ => rfl), hr⟩
 ·refine ⟨hb.os.trans hm.below.os, hb.tape.trans hm.below.tape, hb.output.trans hm.below.output, Nat.le_trans hm.below.size hb.size, fun k hk hlk => ?_⟩;refine (hb.block k (Nat.lt_of_lt_of_le hk hm.below.size) ?_).trans (hm.below.block k hk hlk);rintro ⟨p, ow, h1, rfl⟩;obtain ⟨c, _, c2⟩ := hρc' p _ h1
  rcases (hm.fresh c ow c2).1 with h | h
  ·omega
  ·exact hlk h
 ·intro id x h;obtain ⟨b, hb⟩ := hm.dom id x h;exact lookO_app hb
 ·exact fun id ow ho => ⟨(hm.fresh id ow ho).1, Nat.lt_of_lt_of_le (hm.fresh id ow ho).2 hb.size⟩
 ·intro id blk h
  rcases lookO_renM h with ⟨p, h1, h2⟩ | ⟨h1, h2⟩
  ·have h3 := s3 _ h1;simp only [Bool.and_eq_true] at h3;obtain ⟨c, hc⟩ := Option.isSome_iff_exists.1 h3.1;rw [hc, Option.getD_some] at h2;subst h2;exact BRel.ground h3.2 (hρc p c hc).symm (hblk p blk h1)
  ·refine (hm.blk id blk h2).mono none (by simp) (noref_none _) (fun ow ho => ?_) hlow (fun _ _ h => h) (fun _ _ _ => rfl);refine hb.block ow.b (hm.fresh id ow ho).2 ?_;rintro ⟨p, ow2, g1, g2⟩;obtain ⟨c, c1, c2⟩ := hρc' p _ g1;have := hm.inj c id ow2 ow c2 ho g2;subst this;obtain ⟨q, hq, hq2⟩ := (s2 (p, c) (lookO_mem _ c1)).2;have hq2 := Nat.eq_of_beq_eq_true hq2;refine h1 q hq ?_;rw [hq2];show (lookO σ p).getD 0 = c;rw [c1]; rfl
theorem at_nil {ev : Operand → TV} {σ : List (Nat × Nat)} : List.map (fun x => some (ev x)) [] = List.map (renT σ) [] := rfl
theorem at_cons {ev : Operand → TV} {σ : List (Nat × Nat)} {x : Operand} {xs : List Operand} {y : TV} {ys : List TV} {z : TV} (h : ev x = z) (hz : renT σ y = some z) (k : List.map (fun x => some (ev x)) xs = List.map (renT σ) ys) : List.map (fun x => some (ev x)) (x :: xs) = List.map (renT σ) (y :: ys) := by
 rw [List.map_cons, List.map_cons, h, hz, k]
end
section
variable {E : Env} {w0 : World} {M0 : Nat → Prop}
theorem Fits.setAt {w : World} {M : Nat → Prop} {cells cs : List G} {vcells vs : List Value} (off : Nat) (h : Fits w M cells vcells) (k : Fits w M cs vs) : Fits w M (Sim.setAt cells off cs) (Sim.setAt vcells off vs) := by
 unfold Sim.setAt;rw [k.length];exact ((h.take off).append k).append (h.drop _)
theorem drop_take_setAt {α : Type} {cur ds : List α} {o a n : Nat} (h1 : a + ds.length ≤ n) (h2 : o + n ≤ cur.length) : ((setAt cur (o + a) ds).drop o).take n = setAt ((cur.drop o).take n) a ds := by
 have hA : (cur.take (o + a)).length = o + a := by rw [List.length_take]; omega
 have hB : ((cur.drop o).take a).length = a := by rw [List.length_take, List.length_drop]; omega
 simp only [setAt];rw [List.append_assoc, List.drop_append_of_le_length (by omega), List.drop_take, show o + a - o = a by omega];have e1 : List.take n ((cur.drop o).take a) = (cur.drop o).take a := List.take_of_length_le (by omega);have e2 : List.take (n - a) ds = ds := List.take_of_length_le (by omega)
 have e3 : List.take a (List.take n (cur.drop o)) = List.take a (cur.drop o) := by rw [List.take_take, Nat.min_eq_left (by omega)]
 have e4 : List.drop (a + ds.length) (List.take n (cur.drop o)) = List.take (n - a - ds.length) (cur.drop (o + a + ds.length)) := by
  rw [List.drop_take, List.drop_drop, show n - (a + ds.length) = n - a - ds.length by omega, show o + (a + ds.length) = o + a + ds.length by omega]
 rw [List.take_append, e1, hB, List.take_append, e2, e3, e4, List.append_assoc]
theorem eff_ixL {o : Oper} {ev : Operand → TV} {t el : TypeId} {x ix : Operand} {k id N : Nat} {b : Bool} {kk : IntKind} {n : Int} (ho : o.op = .indexAddr t x ix)
  (ht : E.P.underlying t = some (.slice el)) (he : tyK E.P el = some (k + 1, b)) (hx : ev x = .osl id (k + 1) 0 N) (hi : ev ix = .g (.lit (.int kk n))) (h0 : 0 ≤ n) (hn : n.toNat < N) (mem : Mem) :
  Eff E o mem ev (.eptr id (k + 1) n.toNat 0) := by
 have := eff_indexO (E := E) (mem := mem) ho ht he hx hi h0 (by simpa using hn)
 rwa [Nat.zero_add] at this
theorem madeCells_eq {z : Array Value} {n k : Nat} (hz : z.size = k) : (madeCells z (n * k)).toList = (List.replicate n z.toList).flatten := by
 subst hz
 apply List.ext_getElem?
 intro i
 have hlen : ∀ m, (List.replicate m z.toList).flatten.length = m * z.size := fun m => by simp
 by_cases hi : i < n * z.size
 ·have hpos : 0 < z.size := by
   rcases Nat.eq_zero_or_pos z.size with h | h
   ·rw [h] at hi; simp at hi
   ·exact h
  have hmod : i % z.size < z.size := Nat.mod_lt _ hpos
  have h1 : (madeCells z (n * z.size)).toList[i]? = some z[i % z.size]! := by simp [madeCells, hi]
  rw [h1]
  have h2 : i = (i / z.size) * z.size + i % z.size := by rw [Nat.mul_comm]; exact (Nat.div_add_mod i z.size).symm
  have h3 : i / z.size < n := Nat.div_lt_of_lt_mul (by rw [Nat.mul_comm]; exact hi)
  have key : ∀ (m q r : Nat), q < m → r < z.size → (List.replicate m z.toList).flatten[q * z.size + r]? = z[r]? := by
   intro m
   induction m with
   | zero => intro q r h; omega
   | succ m ih =>
    intro q r hq hr;rw [List.replicate_succ, List.flatten_cons]
    cases q with
    | zero => rw [Nat.zero_mul, Nat.zero_add, List.getElem?_append_left (by simpa using hr)]; simp
    | succ q =>
     rw [List.getElem?_append_right (by simp [Nat.succ_mul]; omega)];rw [show (q + 1) * z.size + r - z.toList.length = q * z.size + r by simp [Nat.succ_mul]; omega];exact ih q r (by omega) hr
  rw [h2, key n _ _ h3 hmod, ← h2]
  simp [hmod]
 ·rw [List.getElem?_eq_none (by simp [size_madeCells]; omega), List.getElem?_eq_none (by rw [hlen]; omega)]
theorem fits_rep {w : World} {M : Nat → Prop} {c : List G} {vs : List Value} (h : Fits w M c vs) : ∀ n, Fits w M (List.replicate n c).flatten (List.replicate n vs).flatten
 | 0 => by simp [Fits]
 | n + 1 => by
  rw [List.replicate_succ, List.replicate_succ, List.flatten_cons, List.flatten_cons];exact h.append (fits_rep h n)
def mkK (P : Program) (t : TypeId) : Option (TypeId × Nat × Nat × List Value) := match appK P t with
 | some (e, k, by_) => match P.info? e with
  | some i => match i.zero with
   | some z => some (e, k, by_, z.cells.toList)
   | none => none
  | none => none
 | none => none
theorem eff_makeS {α : Type} {o : Oper} {mem : Mem} {ev : Operand → TV} {t e : TypeId} {x y : Operand} {k by_ N : Nat} {c : Int} {n : Int} {zs : List Value} {f : α → List G} {z : α} (id : Nat) (ho : o.op = .makeSlice t x y) (ht : mkK E.P t = some (e, k, by_ + 1, zs)) (hx : ev x = .g (.int n)) (hy : ev y = .g (.int c))
  (hn : n = (N : Int)) (hnc : n ≤ c) (hb : c * ((by_ + 1 : Nat) : Int) ≤ 281474976710656) (hf : lookO mem id = none) (hz : zs.map G.lit = f z) (hz1 : zs.all Value.oneCell' = true) : EffW E o mem ev (.osl id k 0 N) ((id, .arr e k ((List.replicate N z).map f)) :: mem) none := by
 intro w0 M0 ρ w e' hm he;subst hn;have h1 := he x (by rw [ho]; simp [Op.operands]);rw [hx] at h1;have h1' : e' x = .int .i64 N := h1;have h2 := he y (by rw [ho]; simp [Op.operands]);rw [hy] at h2;have h2' : e' y = .int .i64 c := h2;unfold mkK at ht
 split at ht
 ·rename_i e1 k1 b1 happ
  obtain ⟨i, zv, t1, t2, t3, t4, t5, t6⟩ := appK_spec happ;rw [t2] at ht;simp only [t3, Option.some.injEq, Prod.mk.injEq] at ht;obtain ⟨rfl, rfl, rfl, rfl⟩ := ht
  have hc0 : 0 ≤ c := by omega
  have hc63 : c ≤ 281474976710656 := by
   have : c * 1 ≤ c * ((by_ + 1 : Nat) : Int) := Int.mul_le_mul_of_nonneg_left (by omega) hc0
   omega
  have hr := run_make (P := E.P) w t e1 i zv t1 t2 t3 .i64 .i64 (N : Int) c (by omega) hnc (by rw [t5, Int.mul_comm]; exact hb) (by omega)
  have hrun : (execOp e' o).run E.P w = .ok (.value (.slice (some ⟨w.heap.size, 0, none⟩) N c.toNat)) (w.alloc (.cells (madeCells zv.cells (c.toNat * k1)) e1)) := by
   simp only [execOp, ho, h1', h2', Sem.run_bind, hr, Result.andThen_ok, Sem.run_pure, Int.toNat_natCast, t4]
  rw [hrun];have hr0 := rho_none hm hf;have hg := Grow.alloc w (.cells (madeCells zv.cells (c.toNat * k1)) e1)
  have hM : ∀ b, b < w.heap.size → owned M0 (rhoSet ρ id (some ⟨w.heap.size, 0, c.toNat⟩)) b → owned M0 ρ b := by
   rintro b hb (h | ⟨i, o, h, rfl⟩)
   ·exact .inl h
   ·by_cases hi : i = id
    ·subst hi; rw [rhoSet_same] at h; cases h; simp at hb
    ·exact .inr ⟨i, o, by simpa [rhoSet, hi] using h, rfl⟩
  have hzf : Fits w (owned M0 ρ) (f z) zv.cells.toList := by rw [← hz]; exact fits_lits (fun v hv => List.all_eq_true.1 hz1 v hv)
  have hkz : (f z).length = k1 := by rw [← hzf.length, Array.length_toList, t6]
  have hN : N ≤ c.toNat := by omega
  obtain ⟨g1, g2⟩ := mrel_upd (id := id) (x := some ⟨w.heap.size, 0, c.toNat⟩) (blk' := .arr e1 k1 ((List.replicate N z).map f)) none hm (diff_alloc ρ id w (.cells (madeCells zv.cells (c.toNat * k1)) e1)) (fun o ho => by cases ho; exact ⟨.inl (Nat.le_refl _), by simp⟩) (.inr ⟨rfl, .inl hr0⟩) (fun _ b _ _ => noref_none b) (.inl rfl)
   (.inr ⟨⟨w.heap.size, 0, c.toNat⟩, _, rhoSet_same _ _ _, heap_alloc_new w _, by simpa using hN, by show c.toNat ≤ maxLen; unfold maxLen; omega, .inr (by show 0 + c.toNat * k1 ≤ _; rw [size_madeCells]; omega), fun d hd => by
    obtain ⟨y, hy, rfl⟩ := List.mem_map.1 hd
    rw [List.eq_of_mem_replicate hy]; exact hkz, by
    show Fits _ _ _ ((List.drop 0 _).take _);rw [List.drop_zero, madeCells_eq t6, List.map_replicate, List.length_replicate]
    have : ((List.replicate c.toNat zv.cells.toList).flatten).take (N * k1) = (List.replicate N zv.cells.toList).flatten := by
     have e1 : List.replicate c.toNat zv.cells.toList = List.replicate N zv.cells.toList ++ List.replicate (c.toNat - N) zv.cells.toList := by rw [List.replicate_append_replicate]; congr 1; omega
     rw [e1, List.flatten_append, show N * k1 = ((List.replicate N zv.cells.toList).flatten).length by simp [t6], List.take_left']
     simp [t6]
    rw [this]
    exact (fits_rep hzf N).mono hg.hh hM⟩)
  exact ⟨_, g1, g2, .inr ⟨⟨w.heap.size, 0, c.toNat⟩, rhoSet_same _ _ _, Nat.zero_le _, hN, 0, by simp, fun _ => by simp⟩⟩
 ·cases ht
def copyL {α : Type} (d s : List α) : List α := s.take d.length ++ d.drop s.length
theorem eff_copyL {α : Type} {o : Oper} {mem : Mem} {ev : Operand → TV} {t t2 e : TypeId} {x y : Operand} {k by_ id N : Nat} {d s : List α} {f : α → List G} (ho : o.op = .call ⟨.builtin .copy, #[x, y], #[t, t2]⟩) (ha : appK E.P t = some (e, k + 1, by_)) (hx : ev x = .osl id (k + 1) 0 N) (hN : d.length = N)
  (hb : lookO mem id = some (.arr e (k + 1) (d.map f))) (hsrc : SrcT E mem (k + 1) (s.map f) (ev y)) : EffW E o mem ev (.g (.int ((min s.length d.length : Nat) : Int))) ((id, .arr e (k + 1) ((copyL d s).map f)) :: mem) none := by
 intro w0 M0 ρ w e' hm he;subst hN;have h1 := he x (by rw [ho]; simp [Op.operands, Call.operands]);rw [hx] at h1;have h2 := he y (by rw [ho]; simp [Op.operands, Call.operands]);obtain ⟨i, z, t1, t2', t3, t4, t5, t6⟩ := appK_spec ha;obtain ⟨news, n1, nl, a, cp, hv, ncell⟩ := hsrc.2 w0 M0 ρ w _ hm h2;have hmin : (Nat.min s.length d.length) = min s.length d.length := rfl
 have hnl : news.length = s.length * (k + 1) := by rw [nl, List.length_map]
 rw [List.length_map] at hv
 let cs := news.take (min s.length d.length * (k + 1))
 have hle : min s.length d.length * (k + 1) ≤ s.length * (k + 1) := Nat.mul_le_mul_right _ (Nat.min_le_left _ _)
 have hcs : cs.length = min s.length d.length * (k + 1) := by simp only [cs, List.length_take]; omega
 have hone : ∀ u ∈ cs, u.oneCell' = true := fun u hu => n1.one u (List.mem_of_mem_take hu)
 -- what is read
 have hfirst : (Builtin.firstCells (k + 1) (min s.length d.length) (.slice a s.length cp)).run E.P w = .ok cs.toArray w := by
  by_cases h0 : min s.length d.length = 0
  ·have : cs = [] := List.eq_nil_of_length_eq_zero (by rw [hcs, h0]; simp);rw [h0, this]
   cases a with
   | none => simp [Builtin.firstCells]
   | some a => simp [Builtin.firstCells, loadCells, loadCellsFrom]
  ·rcases ncell with h | ⟨b, o', rfl, hcell⟩
   ·rw [List.length_map] at h; omega
   ·refine run_firstCells_some (P := E.P) w (k + 1) _ ⟨b, o', none⟩ _ cp cs hcs ?_;intro j v hj;rw [Addr.add_lit];refine hcell j v ?_;simp only [cs, List.getElem?_take] at hj
    split at hj
    ·exact hj
    ·cases hj
 have hlenS : (Builtin.lenOf (.slice a s.length cp)).run E.P w = .ok s.length w := by simp [Builtin.lenOf]
 have hcopy : copyL d s = (s.take (min s.length d.length)) ++ d.drop (min s.length d.length) := by
  unfold copyL
  rcases Nat.le_total s.length d.length with h | h
  ·rw [Nat.min_eq_left h, List.take_of_length_le h, List.take_of_length_le (Nat.le_refl _)]
  ·rw [Nat.min_eq_right h, List.drop_eq_nil_of_le h, List.drop_eq_nil_of_le (Nat.le_refl _)]
 have hclen : (copyL d s).length = d.length := by rw [hcopy, List.length_append, List.length_take, List.length_drop]; omega
 rcases hm.blk id _ hb with ⟨g1, g2⟩ | ⟨ow, cur, g1, g2, g3, g4, g5, g6, g7⟩
 ·-- the nil slice
  have hd0 : d = [] := by simpa using g2
  subst hd0
  have hex : e' x = .slice none 0 0 := by
   rcases h1 with ⟨_, _, _, h⟩ | ⟨ow, h, _⟩
   ·exact h
   ·rw [g1] at h; cases h
  have hrun : (execOp e' o).run E.P w = .ok (.value (.int .i64 0)) w := by
   simp [execOp, ho, resolve, invoke, builtin, Builtin.copy_, hex, hv, run_underlying t1, hlenS, sizeOf, typeInfo, t2', t4, goInt]
   have := hfirst
   simp at this
   rw [this]; rfl
  rw [hrun]
  have hc0 : copyL ([] : List α) s = [] := by simp [copyL]
  obtain ⟨k1, k2⟩ := mrel_upd (id := id) (x := none) (blk' := .arr e (k + 1) ((copyL ([] : List α) s).map f)) none hm ⟨rfl, rfl, rfl, Nat.le_refl _, fun _ _ _ => rfl⟩ (fun _ h => by cases h) (.inr ⟨rfl, .inr g1⟩) (fun _ b _ _ => noref_none b) (.inl rfl) (.inl ⟨rhoSet_same _ _ _, by rw [hc0]; rfl⟩);exact ⟨_, k1, k2, by simp; rfl⟩
 ·rw [List.length_map] at g3 g7
  have hex : ∃ cap, e' x = .slice (some ⟨ow.b, ow.o, none⟩) d.length cap ∧ (0 < ow.cap) ∨ (d.length = 0 ∧ ∃ p, e' x = .slice (some ⟨ow.b, p, none⟩) d.length cap) := by
   rcases h1 with ⟨h, _⟩ | ⟨ow', h, _, h4, p, h5, h6⟩
   ·rw [g1] at h; cases h
   ·have : ow' = ow := by rw [g1] at h; simpa using h.symm
    subst this
    by_cases hc : 0 < ow'.cap
    ·have := h6 hc;rw [Nat.zero_mul, Nat.add_zero] at this;subst this;exact ⟨ow'.cap, .inl ⟨by simpa using h5, hc⟩⟩
    ·refine ⟨ow'.cap, .inr ⟨by omega, p, by simpa using h5⟩⟩
  have hstore : ∃ w' cur', (execOp e' o).run E.P w = .ok (.value (.int .i64 ((min s.length d.length : Nat) : Int))) w' ∧ w'.heap[ow.b]? = some (.cells cur' e (0, 0)) ∧ cur'.toList = setAt cur.toList ow.o cs ∧ (∀ b, b ≠ ow.b → w'.heap[b]? = w.heap[b]?) ∧ w'.heap.size = w.heap.size ∧ w'.os = w.os ∧ w'.tape = w.tape ∧ w'.output = w.output := by
   obtain ⟨cap, hex | ⟨hd0, p, hex⟩⟩ := hex
   ·have hcap := g5.resolve_left (by omega)
    have hfit : ow.o + 0 + cs.length ≤ cur.size := by
     rw [hcs];have : min s.length d.length * (k + 1) ≤ ow.cap * (k + 1) := Nat.mul_le_mul_right _ (Nat.le_trans (Nat.min_le_right _ _) g3)
     omega
    obtain ⟨w', cur', r1, r2, r3, r4, r5, r6, r7, r8⟩ := run_storeCells (P := E.P) ow.b ow.o e cs 0 cur w g2 hfit hone;refine ⟨w', cur', ?_, r2, by simpa using r3, r4, r5, r6, r7, r8⟩
    simp [execOp, ho, resolve, invoke, builtin, Builtin.copy_, hex.1, hv, run_underlying t1, hlenS, sizeOf, typeInfo, t2', t4, goInt, hmin, hfirst, r1]
   ·have hcs0 : cs = [] := List.eq_nil_of_length_eq_zero (by rw [hcs, hd0]; simp);have hf0 := hfirst;rw [hcs0, hd0] at hf0
    simp at hf0
    refine ⟨w, cur, ?_, g2, by rw [hcs0]; simp [setAt], fun _ _ => rfl, rfl, rfl, rfl, rfl⟩
    simp [execOp, ho, resolve, invoke, builtin, Builtin.copy_, hex, hd0, hv, run_underlying t1, hlenS, sizeOf, typeInfo, t2', t4, goInt, hf0, storeCells]
  obtain ⟨w', cur', hrun, r2, r3, r4, r5, r6, r7, r8⟩ := hstore;rw [hrun];have hdf : Diff ρ id w w' := ⟨r6, r7, r8, by omega, fun b _ hne => r4 b (hne ow g1)⟩
  have hM : ∀ b, b < w.heap.size → owned M0 (rhoSet ρ id (some ow)) b → owned M0 ρ b := by
   rintro b hb (h | ⟨i, o, h, rfl⟩)
   ·exact .inl h
   ·by_cases hi : i = id
    ·subst hi; rw [rhoSet_same] at h; cases h; exact .inr ⟨i, ow, g1, rfl⟩
    ·exact .inr ⟨i, o, by simpa [rhoSet, hi] using h, rfl⟩
  have hh : ∀ b, b < w.heap.size → ¬ owned M0 ρ b → w'.heap[b]? = w.heap[b]? := fun b _ hno => r4 b fun he => hno (.inr ⟨id, ow, g1, he.symm⟩)
  have hfk : ∀ c ∈ (copyL d s).map f, c.length = k + 1 := by
   intro c hc;obtain ⟨y, hy, rfl⟩ := List.mem_map.1 hc;rw [hcopy] at hy
   rcases List.mem_append.1 hy with hy | hy
   ·exact hsrc.1 _ (List.mem_map.2 ⟨y, List.mem_of_mem_take hy, rfl⟩)
   ·exact g6 _ (List.mem_map.2 ⟨y, List.mem_of_mem_drop hy, rfl⟩)
  obtain ⟨k1, k2⟩ := mrel_upd (id := id) (x := some ow) (blk' := .arr e (k + 1) ((copyL d s).map f)) none hm hdf (fun o ho => by cases ho; exact ⟨.inr ⟨ow, g1, rfl⟩, by rw [r5]; exact (hm.fresh id ow g1).2⟩) (.inr ⟨rfl, .inr g1⟩) (fun _ b _ _ => noref_none b) (.inl rfl)
   (.inr ⟨ow, cur', rhoSet_same _ _ _, r2, by rw [List.length_map, hclen]; exact g3, g4, g5.imp (fun h => h) (fun h => by
     rw [← Array.length_toList (xs := cur'), r3]
     simp only [setAt, List.length_append, List.length_take, List.length_drop, Array.length_toList]; omega), hfk, by
     rw [List.length_map, hclen, r3]
     rcases g5 with g5 | g5
     ·have hd0 : d.length = 0 := by omega
      have : copyL d s = [] := List.eq_nil_of_length_eq_zero (by rw [hclen, hd0]);rw [this, hd0]; simp [Fits]
     ·have hdk : d.length * (k + 1) ≤ ow.cap * (k + 1) := Nat.mul_le_mul_right _ g3;have hsk : min s.length d.length * (k + 1) ≤ d.length * (k + 1) := Nat.mul_le_mul_right _ (Nat.min_le_right _ _);have := drop_take_setAt (cur := cur.toList) (ds := cs) (o := ow.o) (a := 0) (n := d.length * (k + 1)) (by omega) (by simp; omega);simp only [Nat.add_zero] at this;rw [this, hcopy, List.map_append, List.flatten_append, List.map_take, List.map_drop, ← flatten_take (k := k + 1) _ (fun c hc => hsrc.1 c hc), ← flatten_drop (k := k + 1) _ g6];simp only [setAt, List.take_zero, List.nil_append, Nat.zero_add, hcs]
      exact ((n1.take _).append (g7.drop _)).mono hh hM⟩)
  exact ⟨_, k1, k2, rfl⟩
end
section
variable {E : Env} {w0 : World} {M0 : Nat → Prop}
def mget {K V : Type} [DecidableEq K] : List (K × V) → K → Option V
 | [], _ => none
 | (a, b) :: r, k => bif decide (a = k) then some b else mget r k
def mset {K V : Type} [DecidableEq K] : List (K × V) → K → V → List (K × V)
 | [], k, v => [(k, v)]
 | (a, b) :: r, k, v => bif decide (a = k) then (k, v) :: r else (a, b) :: mset r k v
def mgetD {K V : Type} [DecidableEq K] (m : List (K × V)) (k : K) (z : V) : V := match mget m k with
 | some v => v
 | none => z
def mhas {K V : Type} [DecidableEq K] (m : List (K × V)) (k : K) : Bool := (mget m k).isSome
class MKey {K : Type} (kf : K → Value) (d : outParam TypeDesc) : Prop where
 isKey : ∀ a, MapKept.IsKey d (kf a)
 inj : ∀ a b, kf a = kf b → a = b
instance : MKey (Value.int .i64) (.int .i64) := ⟨fun _ => rfl, fun a b h => by injection h⟩
instance : MKey Value.string .string := ⟨fun _ => trivial, fun a b h => by injection h⟩
instance : MKey Value.bool .bool := ⟨fun _ => trivial, fun a b h => by injection h⟩
def mpB {K V : Type} (kf : K → Value) (vf : V → G) (m : List (K × V)) : Blk := .mp (m.map fun p => (kf p.1, vf p.2))
section find
variable {K V : Type} [DecidableEq K] {kf : K → Value} {vf : V → G} {d : TypeDesc} [MKey kf d] {w : World} {M : Nat → Prop}
theorem mfind {k : K} : ∀ {m : List (K × V)} {l : List MapEntry} (i : Nat), MFits w M (m.map fun p => (kf p.1, vf p.2)) l →
  (mget m k = none ∧ Instr.findNow d (kf k) l i = some none ∧ (∀ x ∈ l, x.key ≠ kf k) ∧ ∀ v, mset m k v = m ++ [(k, v)]) ∨
  ∃ j e b, mget m k = some b ∧ Instr.findNow d (kf k) l i = some (some (i + j, e.val)) ∧ l[j]? = some e ∧ e.key = kf k ∧ (vf b).p w M e.val ∧ ∀ v, mset m k v = m.set j (k, v)
 | [], [], i, _ => .inl ⟨rfl, rfl, by simp, fun _ => rfl⟩
 | (a, b) :: m, e :: l, i, h => by
  obtain ⟨⟨h1, h2⟩, h3⟩ := h;obtain ⟨r, hr, hiff⟩ := MapKept.sameNow_of_keys (MKey.isKey (kf := kf) k) (show MapKept.IsKey d e.key by rw [h1]; exact MKey.isKey (kf := kf) a)
  by_cases hak : a = k
  ·subst hak;have : r = true := hiff.2 h1.symm;subst this;exact .inr ⟨0, e, b, by simp [mget], by simp [Instr.findNow, hr], rfl, h1, h2, fun v => by simp [mset]⟩
  ·have hne : e.key ≠ kf k := fun q => hak (MKey.inj (kf := kf) a k (h1.symm.trans q))
   have : r = false := by cases r with
    | true => exact absurd (hiff.1 rfl).symm hne
    | false => rfl
   subst this
   rcases mfind (k := k) (i + 1) h3 with ⟨g1, g2, g3, g4⟩ | ⟨j, e', b', g1, g2, g3, g4, g5, g6⟩
   ·exact .inl ⟨by simp [mget, hak, g1], by simp [Instr.findNow, hr, g2], fun x hx => by
     rcases List.mem_cons.1 hx with rfl | hx
     ·exact hne
     ·exact g3 x hx, fun v => by simp [mset, hak, g4]⟩
   ·exact .inr ⟨j + 1, e', b', by simp [mget, hak, g1], by simp [Instr.findNow, hr, g2]; omega, by simpa using g3, g4, g5, fun v => by simp [mset, hak, g6]⟩
 | [], _ :: _, _, h => h.elim
 | _ :: _, [], _, h => h.elim
theorem MFits.push : ∀ {es : List (Value × G)} {l : List MapEntry} {x : Value × G} {e : MapEntry}, MFits w M es l → e.key = x.1 → x.2.p w M e.val → MFits w M (es ++ [x]) (l ++ [e])
 | [], [], (_, _), _, _, h1, h2 => ⟨⟨h1, h2⟩, trivial⟩
 | (_, _) :: _, _ :: _, _, _, h, h1, h2 => ⟨h.1, MFits.push h.2 h1 h2⟩
 | [], _ :: _, _, _, h, _, _ => h.elim
 | _ :: _, [], _, _, h, _, _ => h.elim
theorem MFits.set : ∀ {es : List (Value × G)} {l : List MapEntry} {x : Value × G} {e : MapEntry} (j : Nat), MFits w M es l → e.key = x.1 → x.2.p w M e.val → MFits w M (es.set j x) (l.set j e)
 | [], [], _, _, _, h, _, _ => h
 | (_, _) :: _, _ :: _, (_, _), _, 0, h, h1, h2 => ⟨⟨h1, h2⟩, h.2⟩
 | (_, _) :: _, _ :: _, _, _, j + 1, h, h1, h2 => ⟨h.1, MFits.set j h.2 h1 h2⟩
 | [], _ :: _, _, _, _, h, _, _ => h.elim
 | _ :: _, [], _, _, _, h, _, _ => h.elim
end find
theorem look_mp {ρ : Rho} {w : World} {mem : Mem} {id : Nat} {es : List (Value × G)} {v : Value} (hm : MRel E w0 M0 ρ mem w) (hb : lookO mem id = some (.mp es)) (hv : TRel w (owned M0 ρ) ρ (.omap id) v) :
  ∃ ow entries clock, ρ id = some (some ow) ∧ v = .map (some ow.b) ∧ w.heap[ow.b]? = some (.map entries clock) ∧ MFits w (owned M0 ρ) es entries.toList ∧ MapKept.Stamped entries clock := by
 obtain ⟨ow, h1, h2⟩ := hv;obtain ⟨ow', en, cl, g1, g2, g3, g4⟩ := hm.blk id _ hb
 have : ow' = ow := by rw [h1] at g1; simpa using g1.symm
 subst this;exact ⟨ow', en, cl, h1, h2, g2, g3, g4⟩
theorem eff_makeMap {o : Oper} {mem : Mem} {ev : Operand → TV} {t : TypeId} (id : Nat) (ho : o.op = .makeMap t none) (hf : lookO mem id = none) : EffW E o mem ev (.omap id) ((id, .mp []) :: mem) none := by
 intro w0 M0 ρ w e' hm _
 have hrun : (execOp e' o).run E.P w = .ok (.value (.map (some w.heap.size))) (w.alloc (.map #[] 0)) := by simp [execOp, ho, Instr.makeMap]
 rw [hrun];have hr0 := rho_none hm hf;obtain ⟨k1, k2⟩ := mrel_upd (id := id) (x := some ⟨w.heap.size, 0, 0⟩) (blk' := .mp []) none hm (diff_alloc ρ id w (.map #[] 0)) (fun o ho => by cases ho; exact ⟨.inl (Nat.le_refl _), by simp⟩) (.inr ⟨rfl, .inl hr0⟩) (fun _ b _ _ => noref_none b) (.inl rfl)
  ⟨⟨w.heap.size, 0, 0⟩, #[], 0, rhoSet_same _ _ _, heap_alloc_new w _, trivial, MapKept.stamped_empty 0⟩
 exact ⟨_, k1, k2, ⟨w.heap.size, 0, 0⟩, rhoSet_same _ _ _, rfl⟩
section ops
variable {K V : Type} [DecidableEq K] {kf : K → Value} {vf : V → G} {d : TypeDesc} [MKey kf d] {o : Oper} {mem : Mem} {ev : Operand → TV} {t kt et : TypeId} {x ix : Operand} {id : Nat} {m : List (K × V)} {k : K} {z : V}
theorem toList_modify {es : Array MapEntry} {j : Nat} {e : MapEntry} {F : MapEntry → MapEntry} (h : es.toList[j]? = some e) : (es.modify j F).toList = es.toList.set j (F e) := by
 apply List.ext_getElem?
 intro i;simp only [Array.getElem?_toList, Array.getElem?_modify, List.getElem?_set]
 have h' : es[j]? = some e := by simpa using h
 have hlt : j < es.size := (Array.getElem?_eq_some_iff.1 h').1
 by_cases hij : j = i
 ·subst hij; rw [if_pos rfl, if_pos rfl, h']; simp [hlt]
 ·simp [hij]
theorem eff_update {y : Operand} {v : V} {ins : Bool} (ho : o.op = (if ins then .insert t x ix y else .mapUpdate t x ix y)) (ht : E.P.underlying t = some (.map kt et)) (hk : E.P.underlying kt = some d)
  (hx : ev x = .omap id) (hi : ev ix = .g (.lit (kf k))) (hy : ev y = .g (vf v)) (hb : lookO mem id = some (mpB kf vf m)) : EffW E o mem ev undefT ((id, mpB kf vf (mset m k v)) :: mem) none := by
 intro w0 M0 ρ w e' hm he
 have hop : ∀ (P : Op → Prop), P (.insert t x ix y) → P (.mapUpdate t x ix y) → P o.op := fun P h1 h2 => by rw [ho]; cases ins <;> assumption
 have hmem : ∀ q, q = x ∨ q = ix ∨ q = y → q ∈ o.op.operands := fun q hq => by
  rw [ho]; cases ins <;> simp [Op.operands] <;> exact hq
 have h1 := he x (hmem _ (.inl rfl));rw [hx] at h1;have h2 := he ix (hmem _ (.inr (.inl rfl)));rw [hi] at h2;have h2' : e' ix = kf k := h2;have h3 := he y (hmem _ (.inr (.inr rfl)));rw [hy] at h3;have h3' : (vf v).p w (owned M0 ρ) (e' y) := h3;obtain ⟨ow, en, cl, g1, g2, g3, g4, g5⟩ := look_mp hm hb h1;have hck := MapKept.run_checkKey (w := w) hk (MKey.isKey (kf := kf) k) false 9999
 have hexec : execOp e' o = (do Instr.mapUpdate t (e' x) (e' ix) (e' y); pure .skip) := by cases ins <;> simp [execOp, ho]
 have hset : ∀ (ob : Obj), (w.heap.setIfInBounds ow.b ob).size = w.heap.size := fun ob => by simp
 have hlt : ow.b < w.heap.size := (Array.getElem?_eq_some_iff.1 g3).1
 -- what the new map is
 obtain ⟨en', cl', hrun, hf, hst⟩ : ∃ en' cl', (Instr.mapUpdate t (e' x) (e' ix) (e' y)).run E.P w = .ok () { w with heap := w.heap.setIfInBounds ow.b (.map en' cl') } ∧ MFits w (owned M0 ρ) ((mset m k v).map fun p => (kf p.1, vf p.2)) en'.toList ∧ MapKept.Stamped en' cl' := by
  rcases mfind (kf := kf) (vf := vf) (k := k) 0 g4 with ⟨q1, q2, q3, q4⟩ | ⟨j, e, b, q1, q2, q3, q4, q5, q6⟩
  ·refine ⟨en.push { key := kf k, val := e' y, born := cl }, cl + 1, ?_, ?_, MapKept.stamped_push g5 q3⟩
   ·simp [Instr.mapUpdate, g2, h2', run_underlying ht, MapKept.run_getObj_map g3, hck, MapKept.run_findKey hk q2, MapKept.run_setObj_map _ g3]
   ·rw [q4 v, List.map_append, Array.toList_push];exact MFits.push g4 rfl h3'
  ·have hj : en[j]? = some e := by simpa using q3
   refine ⟨en.modify j fun e => { e with key := kf k, val := e' y }, cl, ?_, ?_, MapKept.stamped_modify g5 _ _ (fun _ _ => rfl) (fun e0 _ he0 => by rw [hj] at he0; cases he0; exact q4.symm)⟩
   ·rw [Nat.zero_add] at q2
    simp [Instr.mapUpdate, g2, h2', run_underlying ht, MapKept.run_getObj_map g3, hck, MapKept.run_findKey hk q2, hj, q4, MapKept.run_keyThatStays (MKey.isKey (kf := kf) k), MapKept.run_setObj_map _ g3]
   ·rw [q6 v, toList_modify q3, List.map_set];exact MFits.set j g4 rfl h3'
 have hrun2 : (execOp e' o).run E.P w = .ok .skip { w with heap := w.heap.setIfInBounds ow.b (.map en' cl') } := by rw [hexec, Sem.run_bind, hrun]; rfl
 rw [hrun2];have hoth := (MapKept.heap_set (o' := .map en' cl') g3).2;have hd : Diff ρ id w { w with heap := w.heap.setIfInBounds ow.b (.map en' cl') } := ⟨rfl, rfl, rfl, by simp, fun b _ hne => hoth b (hne ow g1)⟩
 have hM : ∀ b, b < w.heap.size → owned M0 (rhoSet ρ id (some ow)) b → owned M0 ρ b := by
  rintro b hb (h | ⟨i, o, h, rfl⟩)
  ·exact .inl h
  ·by_cases hi : i = id
   ·subst hi; rw [rhoSet_same] at h; cases h; exact .inr ⟨i, ow, g1, rfl⟩
   ·exact .inr ⟨i, o, by simpa [rhoSet, hi] using h, rfl⟩
 have hh : ∀ b, b < w.heap.size → ¬ owned M0 ρ b → ({ w with heap := w.heap.setIfInBounds ow.b (.map en' cl') } : World).heap[b]? = w.heap[b]? := fun b _ hno => hoth b fun he => hno (.inr ⟨id, ow, g1, he.symm⟩);obtain ⟨k1, k2⟩ := mrel_upd (id := id) (x := some ow) (blk' := mpB kf vf (mset m k v)) none hm hd (fun o ho => by cases ho; exact ⟨.inr ⟨ow, g1, rfl⟩, by simpa using hlt⟩) (.inr ⟨rfl, .inr g1⟩) (fun _ b _ _ => noref_none b) (.inl rfl)
  ⟨ow, en', cl', rhoSet_same _ _ _, (MapKept.heap_set (o' := .map en' cl') g3).1, hf.mono hh hM, hst⟩
 exact ⟨_, k1, k2, rfl⟩
end ops
end
section
variable {E : Env} {w0 : World} {M0 : Nat → Prop}
theorem get_lt {α : Type} {l : List α} {i : Nat} {x : α} (h : l[i]? = some x) : i < l.length := (List.getElem?_eq_some_iff.1 h).1
theorem copyL_len {α : Type} (d s : List α) : (copyL d s).length = d.length := by
 unfold copyL;rw [List.length_append, List.length_take, List.length_drop]; omega
end
theorem condT1 {α : Type} {c : Bool} {a b r : α} (h : (bif c then a else b) = r) (h1 : (c == true) = true) : a = r := by cases c <;> simp_all
theorem condF1 {α : Type} {c : Bool} {a b r : α} (h : (bif !c then a else b) = r) (h1 : (c == false) = true) : a = r := by cases c <;> simp_all
theorem bB : (∀ a b : Bool, ((a || b) = true) = (a = true ∨ b = true)) ∧ (∀ a b : Bool, ((a && b) = true) = (a = true ∧ b = true)) ∧ (∀ a b : Bool, ((a || b) = false) ↔ (a = false ∧ b = false)) ∧ (∀ a b : Bool, ((a && b) = false) ↔ (a = false ∨ b = false)) ∧ (∀ b : Bool, ((!b) = true) = (b = false)) ∧ (∀ b : Bool, ((!b) = false) = (b = true)) ∧ (∀ (p : Prop) [Decidable p], (decide p = true) = p) ∧ (∀ (p : Prop) [Decidable p], (decide p = false) ↔ ¬ p) :=
 ⟨fun a b => by cases a <;> cases b <;> simp, fun a b => by cases a <;> cases b <;> simp, fun a b => by cases a <;> cases b <;> simp, fun a b => by cases a <;> cases b <;> simp, fun b => by cases b <;> simp, fun b => by cases b <;> simp, fun _ _ => by simp, fun _ _ => by simp⟩
theorem iA {p : Prop} (h : p := by first | assumption | omega | (simp [copyL_len]; omega)) : p := h
theorem iB {p : Prop} (h : p := by first | omega | (dsimp only; omega) | (simp at *; omega)) : p := h
theorem iC {p : Prop} (h : p := by first | omega | (dsimp only; omega) | (simp at *; done) | (simp at *; omega)) : p := h
theorem iD {p : Prop} (h : p := by first | omega | (dsimp only; omega) | simp) : p := h
theorem iE {p : Prop} (h : p := by unfold I64; omega) : p := h
theorem iF {p : Prop} (h : p := by unfold I64; (try dsimp only); omega) : p := h
theorem iG {p : Prop} (h : p := by (try dsimp only); unfold I64; omega) : p := h
theorem iH {p : Prop} (h : p := by first | (simp; done) | (simp; omega)) : p := h
theorem jA {p : Prop} (h : p := by repeat (first | exact True.intro | refine ⟨rfl, ?_⟩)) : p := h
section
variable {E : Env} {ops : Array Oper} {os : List Oper} {cs : List Cls} {s : ASt} {K : ASt → Prop} {r : TV} {d : Nat} {p : Op} {ty : TypeId} {ps : String} {af : Array Edge} {m : Mem}
theorem su (he : ∀ mem, Eff E ⟨some d, p, ty, ps, af, none⟩ mem (s.eval E) r) (hn : Nat.blt d s.n = true) (hk : AOps E ops os cs (s.put (some d) r) K) : AOps E ops (⟨some d, p, ty, ps, af, none⟩ :: os) (.p :: cs) s K := st rfl rfl he hn hk
theorem sm {x : Operand} {y : G} (hx : s.eval E x = .g y) (hn : Nat.blt d s.n = true) (hk : AOps E ops os cs (s.put (some d) (.g y)) K) : AOps E ops (⟨some d, .move x, ty, ps, af, none⟩ :: os) (.p :: cs) s K := st rfl rfl (eff_moveg rfl hx) hn hk
theorem sa {x : Operand} {y : G} (hx : s.eval E x = .g y) (hn : Nat.blt d s.n = true) (hk : AOps E ops os cs (s.put (some d) (.g y)) K) : AOps E ops (⟨some d, .assign x, ty, ps, af, none⟩ :: os) (.p :: cs) s K := st rfl rfl (eff_assigng rfl hx) hn hk
theorem sg {j e : Nat} {want b : Bool} (hj : (ops[j]?).bind (·.dst) = some e) (hb : s.get e = .g (.lit (.bool b))) (he : (b == want) = true → ∀ mem, Eff E ⟨some d, p, ty, ps, af, some (j, want)⟩ mem (s.eval E) r) (hn : Nat.blt d s.n = true)
  (hk : AOps E ops os cs (s.put (some d) (bif (b == want) then r else undefT)) K) : AOps E ops (⟨some d, p, ty, ps, af, some (j, want)⟩ :: os) (.p :: cs) s K := st_g rfl rfl hj (by rw [hb]; exact gb_bool b want) he hn hk
theorem sr (he : Eff E ⟨some d, p, ty, ps, af, none⟩ s.mem (s.eval E) r) (hn : Nat.blt d s.n = true) (hk : AOps E ops os cs (s.put (some d) r) K) : AOps E ops (⟨some d, p, ty, ps, af, none⟩ :: os) (.r :: cs) s K := st_r rfl rfl he hn hk
theorem sw (he : EffW E ⟨some d, p, ty, ps, af, none⟩ s.mem (s.eval E) r m none) (hn : Nat.blt d s.n = true) (hk : AOps E ops os cs ⟨s.n, upd d r s.tmps, m⟩ K) : AOps E ops (⟨some d, p, ty, ps, af, none⟩ :: os) (.w :: cs) s K := st_w rfl rfl he hn hk
end
section
variable {E : Env} {w0 : World} {M0 : Nat → Prop}
def G.new (n : Nat) (e : TypeId) (k : Nat) (xs : List (List G)) : G :=
 ⟨fun w M u => (u = .slice none 0 0 ∧ xs = []) ∨ ∃ ow : Own, ∃ vs : Array Value, ∃ p, u = .slice (some ⟨ow.b, p, none⟩) xs.length ow.cap ∧ (0 < ow.cap → p = ow.o) ∧ n ≤ ow.b ∧ ¬ M ow.b ∧ w.heap[ow.b]? = some (.cells vs e (0, 0)) ∧ xs.length ≤ ow.cap ∧ ow.cap ≤ maxLen ∧
   (ow.cap = 0 ∨ ow.o + ow.cap * k ≤ vs.size) ∧ (∀ c ∈ xs, c.length = k) ∧ Fits w (fun b => M b ∨ b = ow.b) xs.flatten ((vs.toList.drop ow.o).take (xs.length * k)), fun {w w' M M' u} h hh hM => by
  rcases h with h | ⟨ow, vs, p, h1, h1', h2, h3, h4, h5, h6, h7, h8, h9⟩
  ·exact .inl h
  ·have hlt : ow.b < w.heap.size := (Array.getElem?_eq_some_iff.1 h4).1
   exact .inr ⟨ow, vs, p, h1, h1', h2, fun h => h3 (hM _ hlt h), by rw [hh _ hlt h3]; exact h4, h5, h6, h7, h8, h9.mono (fun b hb hn => hh b hb fun h => hn (.inl h)) (fun b hb h => h.imp (hM b hb) id)⟩⟩
def ConN (E : Env) (f : FuncId) (args : List G) (e : TypeId) (k : Nat) (xs : List (List G)) : Prop :=
 ∀ w M (vs : List Value), (∀ b, M b → b < w.heap.size) → GlOk E w M → FitsT w M args vs → Calls E.P f vs.toArray w fun e' w' => ∃ v, e' = .returned v ∧ Grow w w' ∧ (G.new w.heap.size e k xs).p w' M v
theorem ConN.lend {f : FuncId} {args : List G} {e : TypeId} {k : Nat} {xs : List (List G)} {mem : Mem} {x : Nat → Option Own} (h : ConN E f args e k xs) : ConN (E.lend mem x) f args e k xs := h
def PureL (l : List G) : Prop := ∀ g ∈ l, ∀ w M v w' M', g.p w M v → g.p w' M' v
theorem Fits.pure {w w' : World} {M M' : Nat → Prop} : ∀ {l : List G} {vs : List Value}, PureL l → Fits w M l vs → Fits w' M' l vs
 | [], [], _, _ => trivial
 | g :: l, v :: vs, hp, h => ⟨⟨hp g List.mem_cons_self _ _ _ _ _ h.1.1, h.1.2⟩, Fits.pure (fun g hg => hp g (List.mem_cons_of_mem _ hg)) h.2⟩
 | [], _ :: _, _, h => h.elim
 | _ :: _, [], _, h => h.elim
def FrzTo (id : Nat) (blk : Blk) (a b : TV) : Prop :=
 (∃ k xs e N, blk = .arr e k xs ∧ xs.length = N ∧ a = .osl id k 0 N ∧ b = .g (.sl k xs) ∧ 0 < k) ∨ (∃ cs gs off, blk = .box cs ∧ ungs cs = some gs ∧ gs ≠ [] ∧ a = .ptr id off ∧ b = .g (.ref (gs.drop off))) ∨ (∃ es, blk = .mp es ∧ a = .omap id ∧ b = .g (.mpf es))
theorem frz_arr {id k N : Nat} {e : TypeId} {α : Type} {f : α → List G} {l : List α} (hN : l.length = N) : FrzTo id (.arr e (k + 1) (l.map f)) (.osl id (k + 1) 0 N) (.g (.sl (k + 1) (l.map f))) := .inl ⟨k + 1, _, e, N, rfl, by simpa using hN, rfl, rfl, Nat.succ_pos k⟩
def FrzL (s : ASt) (id : Nat) (blk : Blk) : List (Nat × TV) → Prop
 | [] => True
 | (i, v) :: r => ((s.get i = v ∧ noref (some id) v = true) ∨ FrzTo id blk (s.get i) v) ∧ FrzL s id blk r
theorem frzL_get {s : ASt} {id : Nat} {blk : Blk} : ∀ {l : List (Nat × TV)}, FrzL s id blk l → ∀ i, lookT l i = .any ∨ (∃ v, (i, v) ∈ l ∧ lookT l i = v) ∧ ((s.get i = lookT l i ∧ noref (some id) (lookT l i) = true) ∨ FrzTo id blk (s.get i) (lookT l i))
 | [], _, _ => .inl rfl
 | (k, v) :: r, h, i => by
  simp only [lookT]
  rcases Bool.eq_false_or_eq_true (Nat.beq k i) with hk | hk
  ·rw [hk];have hki := Nat.eq_of_beq_eq_true hk;subst hki;exact .inr ⟨⟨v, List.mem_cons_self, rfl⟩, h.1⟩
  ·rw [hk]
   rcases frzL_get h.2 i with h1 | ⟨⟨u, h2, h3⟩, h4⟩
   ·exact .inl h1
   ·exact .inr ⟨⟨u, List.mem_cons_of_mem _ h2, h3⟩, h4⟩
theorem aw_freeze {c : Code} {Q : Exit → ASt → Prop} {s : ASt} (id : Nat) {blk : Blk} {l : List (Nat × TV)} {m : Mem} (hb : lookO s.mem id = some blk) (h1 : FrzL s id blk l) (h2 : MemL s m) (h3 : closedB l m = true) (hid : lookO m id = none)
  (h : AWp E w0 M0 c Q (stt s.n l m)) (hbw : bowIn E m = true := by rfl) (hst : strictB E = true := by rfl) : AWp E w0 M0 c Q s := by
 intro a w ha;refine h a w ?_;obtain ⟨ρ, hm, hmk, ht⟩ := ha.ex
 let ρ' : Rho := fun id => if (lookO m id).isSome = true then ρ id else none
 have hρ : ∀ id, (lookO m id).isSome = true → ρ' id = ρ id := fun id hi => by simp only [ρ', if_pos hi]
 have hρ' : ∀ id x, ρ' id = some x → ρ id = some x ∧ (lookO m id).isSome = true := by
  intro id x hx;simp only [ρ'] at hx
  split at hx
  ·rename_i hi; exact ⟨hx, hi⟩
  ·cases hx
 have hM : ∀ b, owned M0 ρ' b → owned M0 ρ b := by
  rintro b (hb | ⟨id, o, ho, rfl⟩)
  ·exact .inl hb
  ·exact .inr ⟨id, o, (hρ' id _ ho).1, rfl⟩
 have hlent : lookO E.bow id = none := by
  cases hq : lookO E.bow id with
  | none => rfl
  | some x =>
   have := List.all_eq_true.1 hbw (id, x) (lookO_mem _ hq);simp only [hid] at this
   cases this
 have hno : ∀ ow, ρ id = some (some ow) → ¬ owned M0 ρ' ow.b := by
  rintro ow ho (hM0 | ⟨i, o, hi, he⟩)
  ·exact not_lent hm ho hlent hst (.inl hM0)
  ·have := hm.inj i id o ow (hρ' i _ hi).1 ho he;subst this;have := (hρ' i _ hi).2;rw [hid] at this; cases this
 simp only [closedB, Bool.and_eq_true, List.all_eq_true] at h3;refine ⟨ha.defers, ha.size, ρ', ⟨hm.below, hm.m0, ?_, ?_, ?_, ?_, ?_, hm.lentM, ?_⟩, hmk.sub hM, ?_⟩
 ·intro g vs hg;have := hm.glob g vs hg;exact ⟨⟨fun hb => this.1.1 (hM _ hb), this.1.2⟩, this.2.mono (fun _ _ _ => rfl) (fun b _ => hM b) this.1.1⟩
 ·intro id x hx;have := (hρ' id x hx).2
  cases hl : lookO m id with
  | none => rw [hl] at this; cases this
  | some b => exact ⟨b, hl⟩
 ·exact fun id ow ho => hm.fresh id ow (hρ' id _ ho).1
 ·exact fun id id' ow ow' ho ho' => hm.inj id id' ow ow' (hρ' id _ ho).1 (hρ' id' _ ho').1
 ·intro id x hx;rw [hρ id (List.all_eq_true.1 hbw (id, x) (lookO_mem _ hx))];exact hm.keep id x hx
 ·intro i blk' hb0;have hb0 : lookO m i = some blk' := hb0
  have hi : (lookO m i).isSome = true := by rw [hb0]; rfl
  have := hm.blk i blk' (memL_look h2 i blk' hb0)
  cases blk' with
  | box cs =>
   obtain ⟨ow, e, vs, g1, g2, g3, g4⟩ := this;have hcl := h3.2 (i, .box cs) (lookO_mem _ hb0);exact ⟨ow, e, vs, by rw [hρ i hi]; exact g1, g2, g3, g4.sub hM hρ (by simpa [blkIn] using hcl)⟩
  | arr e k xs =>
   rcases this with ⟨g1, g2⟩ | ⟨ow, vs, g1, g2, g3, g4, g5, g6, g7⟩
   ·exact .inl ⟨by rw [hρ i hi]; exact g1, g2⟩
   ·exact .inr ⟨ow, vs, by rw [hρ i hi]; exact g1, g2, g3, g4, g5, g6, g7.mono (fun _ _ _ => rfl) (fun b _ => hM b)⟩
  | mp es =>
   obtain ⟨ow, en, cl, g1, g2, g3, g4⟩ := this;exact ⟨ow, en, cl, by rw [hρ i hi]; exact g1, g2, g3.mono (fun _ _ _ => rfl) (fun b _ => hM b), g4⟩
  | obj o =>
   obtain ⟨ow, g1, g2, g3⟩ := this;exact ⟨ow, by rw [hρ i hi]; exact g1, g2, g3⟩
  | mit es seen =>
   obtain ⟨ow, g1, g2, g3⟩ := this;exact ⟨ow, by rw [hρ i hi]; exact g1, g2, g3.mono rfl (fun _ _ _ => rfl) (fun b _ => hM b)⟩
  | tbox T cs =>
   obtain ⟨ow, vs, g1, g2, g3, g4⟩ := this;have hcl := h3.2 (i, .tbox T cs) (lookO_mem _ hb0);exact ⟨ow, vs, by rw [hρ i hi]; exact g1, g2, g3, g4.sub hM hρ (by simpa [blkIn] using hcl)⟩
  | buf e bs =>
   rcases this with ⟨g1, g2⟩ | ⟨ow, cur, g1, g2⟩
   ·exact .inl ⟨by rw [hρ i hi]; exact g1, g2⟩
   ·exact .inr ⟨ow, cur, by rw [hρ i hi]; exact g1, g2⟩
  | gone => trivial
 ·intro i;show TRel _ _ _ (lookT l i) _
  rcases frzL_get h1 i with h4 | ⟨⟨v, h5, h6⟩, h7⟩
  ·rw [h4]; trivial
  ·rcases h7 with ⟨h8, h9⟩ | h8
   ·have := ht i;rw [h8] at this;exact this.sub (m := m) (by rw [h6]; exact h3.1 (i, v) h5) hM hρ
   ·have hv := ht i
    rcases h8 with ⟨k, xs, e, N, rfl, hN, ha1, hb1, hk⟩ | ⟨cs, gs, off, rfl, hu, hne, ha1, hb1⟩ | ⟨es, rfl, ha1, hb1⟩
    ·rw [ha1] at hv;rw [hb1];subst hN;have hview := osl_view hm hb hv (Nat.zero_le _) (Nat.le_refl _);obtain ⟨a', cap, e1, g1, g2, g3, g4, g5, g6⟩ := hview;simp only [Nat.sub_zero, List.drop_zero, List.take_length] at e1 g1 g4 g5 g6;refine ⟨a', cap, e1, g1, g2, g5, ?_⟩
     rcases g6 with g6 | ⟨b, o, cur, news, rfl, ⟨ow, k0, rfl⟩, k1, k2, k3⟩
     ·have : xs = [] := List.eq_nil_of_length_eq_zero g6;subst this;exact .inl ⟨rfl, fun ha => (g3 ha).1⟩
     ·exact .inr ⟨ow.b, o, rfl, hno ow k0, cells_of_fits k1 (k2.mono (fun _ _ _ => rfl) (fun b _ => hM b)) k3⟩
    ·rw [ha1] at hv;rw [hb1];obtain ⟨ow, g1, g2⟩ := hv;obtain ⟨ow', e, vs, g3, g4, g5, g6⟩ := hm.blk id _ hb
     have : ow' = ow := by rw [g1] at g3; simpa using g3.symm
     subst this;refine ⟨ow'.b, ow'.o + off, g2, .inr (hno ow' g1), ?_⟩;have g7 := g6;rw [ungs_eq hu] at g7;have g8 := (fits_of_tfits g7).mono (w' := w) (M' := owned M0 ρ') (fun _ _ _ => rfl) (fun b _ => hM b);have hcells : Cells w (owned M0 ρ') ow'.b 0 gs := cells_of_fits g5 g8 (fun j v hj => by simpa using hj);rw [g4];exact hcells.drop off
    ·rw [ha1] at hv;rw [hb1];obtain ⟨ow, g1, g2⟩ := hv;obtain ⟨ow', en, cl, g3, g4, g5, g6⟩ := hm.blk id _ hb
     have : ow' = ow := by rw [g1] at g3; simpa using g3.symm
     subst this;exact ⟨ow'.b, en, cl, g2, hno ow' g1, g4, g5.mono (fun _ _ _ => rfl) (fun b _ => hM b), g6⟩
end
section
variable {E : Env} {w0 : World} {M0 : Nat → Prop}
theorem eff_slO {o : Oper} {ev : Operand → TV} {t el : TypeId} {x : Operand} {lo hi : Option Operand} {id k N a c : Nat} {b : Bool} (ho : o.op = .slice t x lo hi none) (ht : E.P.underlying t = some (.slice el)) (hk : tyK E.P el = some (k, b)) (hx : ev x = .osl id k 0 N)
  (hlo : BndV ev lo a 0) (hhi : BndV ev hi c N) (hac : a ≤ c) (hcl : c ≤ N) (mem : Mem) : Eff E o mem ev (.osl id k a c) :=
 eff_same (fun w M ρ e' he => by
  have h1 := he x (by rw [ho]; simp [Op.operands]);rw [hx] at h1
  rcases h1 with ⟨g1, _, hN, g3⟩ | ⟨ow, g1, _, g2, p, g3, g4⟩
  ·subst hN
   have hc0 : c = 0 := by omega
   have ha0 : a = 0 := by omega
   subst hc0; subst ha0
   have hb := run_slBounds (P := E.P) (isS := true) (w := w) (e' := e') (ρ := ρ) (M := M) hlo hhi hac hcl (Nat.le_refl 0) (fun y hy => he y (by
    rw [ho]
    rcases hy with rfl | rfl <;> simp [Op.operands]))
   refine ⟨.slice none 0 0, ?_, .inl ⟨g1, rfl, rfl, rfl⟩⟩;simp only [execOp, ho, g3, Instr.sliceAt, Instr.slice, Sem.run_bind, Sem.run_map, run_underlying ht, Result.andThen_ok, Option.map_none, hb, run_sizeOf hk, Sem.run_pure]
   rfl
  ·rw [Nat.sub_zero] at g3
   have hb := run_slBounds (P := E.P) (isS := true) (w := w) (e' := e') (ρ := ρ) (M := M) hlo hhi hac hcl (show N ≤ ow.cap - 0 by omega) (fun y hy => he y (by
    rw [ho]
    rcases hy with rfl | rfl <;> simp [Op.operands]))
   rw [Nat.sub_zero] at hb;refine ⟨.slice (if ow.cap = a then some ⟨ow.b, p, none⟩ else some ⟨ow.b, p + a * k, none⟩) (c - a) (ow.cap - a), ?_, .inr ⟨ow, g1, hac, by omega, if ow.cap = a then p else p + a * k, ?_, fun h => ?_⟩⟩
   ·simp only [execOp, ho, g3, Nat.sub_zero, Instr.sliceAt, Instr.slice, Sem.run_bind, Sem.run_map, run_underlying ht, Result.andThen_ok, Option.map_none, hb, run_sizeOf hk, Sem.run_pure, Option.map_some, Addr.add_lit]
   ·by_cases hca : ow.cap = a <;> simp [hca]
   ·rw [if_neg (by omega), g4 (by omega), Nat.zero_mul, Nat.add_zero]) mem
end
theorem src_oslC {E : Env} {mem : Mem} {id k N c : Nat} {e : TypeId} {α : Type} {f : α → List G} {l : List α} (hb : lookO mem id = some (.arr e k (l.map f))) (hN : l.length = N) (hc : ∀ x ∈ l.map f, x.length = k) (_h1 : 0 ≤ c) (h2 : c ≤ N) : SrcT E mem k ((l.take c).map f) (.osl id k 0 c) := by
 have := src_osl (E := E) (lo := 0) (hi := c) hb hc (Nat.zero_le _) (by rw [List.length_map, hN]; exact h2);rw [List.drop_zero, Nat.sub_zero, ← List.map_take] at this;exact this
theorem src_oslA {E : Env} {mem : Mem} {id k N a : Nat} {e : TypeId} {α : Type} {f : α → List G} {l : List α} (hb : lookO mem id = some (.arr e k (l.map f))) (hN : l.length = N) (hc : ∀ x ∈ l.map f, x.length = k) (h1 : a ≤ N) (_h2 : N ≤ N) : SrcT E mem k ((l.drop a).map f) (.osl id k a N) := by
 have := src_osl (E := E) (lo := a) (hi := N) hb hc h1 (by rw [List.length_map, hN]; exact Nat.le_refl _);rw [List.take_of_length_le (by rw [List.length_drop, List.length_map, hN]; exact Nat.le_refl _), ← List.map_drop] at this;exact this
end Go.Sim
