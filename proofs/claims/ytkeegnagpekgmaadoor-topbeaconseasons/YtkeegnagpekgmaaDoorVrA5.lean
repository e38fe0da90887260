/-
  What is proved: lemmas and contracts of functions on the way to the law topBeaconSeasons (part 5).
-/
import Derived.Test.YtkeegnagpekgmaaDoorVrA2
import Derived.Test.YtkeegnagpekgmaaDoorProg
import Derived.ProofKit
import Derived.Test.YtkeegnagpekgmaaDoorRows
import Derived.Test.YtkeegnagpekgmaaDoorTie
import Derived.LaidMore
import Derived.OpenShut
import Derived.Stop.Joined
import Derived.Carry
import Derived.Laws.MakeOwn
set_option linter.unusedSectionVars false
set_option linter.unusedSimpArgs false
set_option linter.unusedVariables false
set_option linter.unnecessarySimpa false
set_option linter.deprecated false
namespace Go.Sim
open Go.Proofs
def lengthCells : List Value := [31, 28, 31, 30, 31, 30, 31, 31, 30, 31, 30, 31].map (.int .i64 ·)
abbrev glT : List (Nat × List Value) := [(0, lengthCells)]
theorem tryzOrders : Tryd.prog.follows .mixedOrders = true := by kernel_rfl
noncomputable abbrev EG (g : List (Nat × List Value)) : Env := ⟨Tryd.prog, g, tryzOrders, [], none, false⟩
def eqAnd : List Bool → Bool
 | [] => true
 | b :: l => b && eqAnd l
def ixO {α : Type} (l : List α) (i : Int) : Option α := bif decide (0 ≤ i) then l[i.toNat]? else none
theorem ixO_nn {α : Type} {l : List α} {i : Int} {x : α} (h : ixO l i = some x) : 0 ≤ i := by
 unfold ixO at h
 cases hd : decide (0 ≤ i) with
 | true => exact of_decide_eq_true hd
 | false => rw [hd] at h; cases h
theorem ixO_get {α : Type} {l : List α} {i : Int} {x : α} (h : ixO l i = some x) : l[i.toNat]? = some x := by
 have := ixO_nn h;unfold ixO at h;rw [decide_eq_true this] at h; exact h
theorem le_get {α : Type} {l : List α} {k : Nat} {x : α} (h : l[k]? = some x) : ((k : Nat) : Int).toNat ≤ l.length := by
 have := (List.getElem?_eq_some_iff.1 h).1
 simp; omega
theorem rv_viewL {E : Env} {s : ASt} {t id k : Nat} {e : TypeId} {α : Type} {f : α → List G} {l : List α} (h : s.get t = .osl id k 0 l.length) (hb : lookO s.mem id = some (.arr e k (l.map f))) (hbw : lookO E.bow id = none := by rfl) : RVal E s (.tmp t) (.sl k (l.map f)) := by
 refine rv_view ?_ (by rw [h]; simp [viewB, hbw]);rw [h]
 simp [viewG, hb]
 rw [show l.length = (l.map f).length by simp, List.take_length]
theorem rv_nilG {E : Env} {s : ASt} {t : Nat} {x : G} (h : s.get t = .g (.lit (.slice none 0 0))) (hx : ∀ w M, x.p w M (.slice none 0 0)) : RVal E s (.tmp t) x := by
 intro w0 M0 ρ w tmps hm ht;refine ⟨tmps.getD t undef, rfl, ?_, fun _ _ => rfl⟩;have := ht t;rw [h] at this;rw [show tmps.getD t undef = _ from this];exact hx _ _
theorem nil_sl (k : Nat) : ∀ w M, (G.sl k []).p w M (.slice none 0 0) := fun _ _ => ⟨none, 0, rfl, Nat.le_refl _, Nat.zero_le _, by simp, .inl ⟨rfl, fun _ => rfl⟩⟩
section
variable {E : Env} {o : Oper} {ev : Operand → TV}
def shrI (a b : Int) : Int := a.fdiv (2 ^ (min b.toNat 64))
def shlI (a b : Int) : Int := IntKind.i64.wrap (a * 2 ^ (min b.toNat 64))
def andI (a b : Int) : Int := IntKind.i64.wrap ((BitVec.ofInt 64 a &&& BitVec.ofInt 64 b).toNat : Int)
def orI (a b : Int) : Int := IntKind.i64.wrap ((BitVec.ofInt 64 a ||| BitVec.ofInt 64 b).toNat : Int)
theorem eff_and2 {t t' : TypeId} {x y : Operand} {a b : Int} (ho : o.op = .binOp .and t x y t') (hx : ev x = .g (.int a)) (hy : ev y = .g (.int b)) (mem : Mem) : Eff E o mem ev (.g (.int (andI a b))) :=
 eff_int ho hx hy rfl mem
theorem eff_or2 {t t' : TypeId} {x y : Operand} {a b : Int} (ho : o.op = .binOp .or t x y t') (hx : ev x = .g (.int a)) (hy : ev y = .g (.int b)) (mem : Mem) : Eff E o mem ev (.g (.int (orI a b))) :=
 eff_int ho hx hy rfl mem
theorem eff_shr {t t' : TypeId} {x y : Operand} {k : IntKind} {a b : Int} (ho : o.op = .binOp .shr t x y t') (hx : ev x = .g (.int a)) (hy : ev y = .g (.lit (.int k b))) (h0 : 0 ≤ b) (mem : Mem) : Eff E o mem ev (.g (.int (shrI a b))) :=
 eff_bin ho hx hy (fun w => ⟨.int .i64 (shrI a b), by
  have : ¬ b < 0 := by omega
  simp [eqGuard, binOp, Op.shift, this, shrI]
  rfl, fun _ => rfl⟩) mem
theorem eff_shl {t t' : TypeId} {x y : Operand} {k : IntKind} {a b : Int} (ho : o.op = .binOp .shl t x y t') (hx : ev x = .g (.int a)) (hy : ev y = .g (.lit (.int k b))) (h0 : 0 ≤ b) (mem : Mem) : Eff E o mem ev (.g (.int (shlI a b))) :=
 eff_bin ho hx hy (fun w => ⟨.int .i64 (shlI a b), by
  have : ¬ b < 0 := by omega
  simp [eqGuard, binOp, Op.shift, this, shlI]
  rfl, fun _ => rfl⟩) mem
end
theorem eff_quow {E : Env} {o : Oper} {ev : Operand → TV} {t t' : TypeId} {x y : Operand} {a b : Int} (ho : o.op = .binOp .quo t x y t') (hx : ev x = .g (.int a)) (hy : ev y = .g (.int b)) (hb : b ≠ 0) (mem : Mem) : Eff E o mem ev (.g (.int (IntKind.i64.wrap (a.tdiv b)))) :=
 eff_int ho hx hy (by rw [binOp_quo, Op.intDiv, if_neg hb]) mem
inductive Sh where
 | int | str | bool
 | num (k : IntKind)
 | sl (l : List Sh)
inductive Is : List Sh → List G → Prop
 | nil : Is [] []
 | int {l : List Sh} {gs : List G} (n : Int) (h : Is l gs) : Is (.int :: l) (G.int n :: gs)
 | num {l : List Sh} {gs : List G} {k : IntKind} (n : Int) (h1 : k.min ≤ n) (h2 : n ≤ k.max) (h : Is l gs) : Is (.num k :: l) (G.lit (.int k n) :: gs)
 | str {l : List Sh} {gs : List G} (s : ByteArray) (h : Is l gs) : Is (.str :: l) (G.str s :: gs)
 | bool {l : List Sh} {gs : List G} (b : Bool) (h : Is l gs) : Is (.bool :: l) (G.bool b :: gs)
 | sl {l : List Sh} {gs : List G} {k : Nat} {m : List Sh} {xs : List (List G)} (hk : k = m.length) (hx : ∀ c ∈ xs, Is m c) (h : Is l gs) : Is (.sl m :: l) (G.sl k xs :: gs)
theorem Is.length {l : List Sh} {gs : List G} (h : Is l gs) : gs.length = l.length := by
 induction h <;> simp_all
theorem Is.append {l m : List Sh} {gs hs : List G} (h : Is l gs) (k : Is m hs) : Is (l ++ m) (gs ++ hs) := by
 induction h with
 | nil => exact k
 | int n _ ih => exact .int n ih
 | num n h1 h2 _ ih => exact .num n h1 h2 ih
 | str s _ ih => exact .str s ih
 | bool b _ ih => exact .bool b ih
 | sl hk hx _ _ ih => exact .sl hk hx ih
def fieldsSh (P : Program) (rec : TypeId → Option (List Sh)) : List Field → Nat → Nat → Option (List Sh)
 | [], o, tot => if o = tot then some [] else none
 | f :: fs, o, tot => if f.offset = o then (match rec f.type with
  | some l => if l.length = P.cellsOf f.type then (match fieldsSh P rec fs (o + l.length) tot with | some r => some (l ++ r) | none => none) else none
  | none => none) else none
def shOf (P : Program) : Nat → TypeId → Option (List Sh)
 | 0, _ => none
 | n + 1, t => match P.underlying t with
  | some (.int k) => match k with
   | .i64 => some [.int]
   | k => some [.num k]
  | some .string => some [.str]
  | some .bool => some [.bool]
  | some (.slice e) => match shOf P n e with
   | some l => if l.length = P.cellsOf e then some [.sl l] else none
   | none => none
  | some (.struct fs) => fieldsSh P (shOf P n) fs.toList 0 (P.cellsOf t)
  | _ => none
section
variable {H : Type} {enc : TypeId × Value → H} {P : Program} {w : World} {base : Nat} {spare : Nat → Bool} {held : Bool}
theorem fits_app {M : Nat → Prop} : ∀ {gs : List G} {vs : List Value} {gs' : List G} {vs' : List Value}, Fits w M gs vs → Fits w M gs' vs' → Fits w M (gs ++ gs') (vs ++ vs')
 | [], [], _, _, _, h => h
 | _ :: _, _ :: _, _, _, h, k => ⟨h.1, fits_app h.2 k⟩
 | [], _ :: _, _, _, h, _ => h.elim
 | _ :: _, [], _, _, h, _ => h.elim
theorem fits_len {M : Nat → Prop} : ∀ {gs : List G} {vs : List Value}, Fits w M gs vs → vs.length = gs.length
 | [], [], _ => rfl
 | _ :: _, _ :: _, h => by simp [fits_len h.2]
 | [], _ :: _, h => h.elim
 | _ :: _, [], h => h.elim
theorem cells_app {M : Nat → Prop} {b : Nat} : ∀ {gs gs' : List G} {o : Nat}, Cells w M b o gs → Cells w M b (o + gs.length) gs' → Cells w M b o (gs ++ gs')
 | [], _, _, _, k => k
 | g :: gs, gs', o, h, k => ⟨h.1, cells_app h.2 (by rw [show o + 1 + gs.length = o + (g :: gs).length by simp; omega]; exact k)⟩
theorem cells_mk_fits {M : Nat → Prop} {b : Nat} : ∀ {gs : List G} {vs : List Value} {o : Nat}, Fits w M gs vs → (∀ i, i < vs.length → w.cell? ⟨b, o + i, none⟩ = vs[i]?) → Cells w M b o gs
 | [], [], _, _, _ => trivial
 | g :: gs, v :: vs, o, h, k => ⟨⟨v, by simpa using k 0 (by simp), h.1.1, h.1.2⟩, cells_mk_fits h.2 fun i hi => by
   have := k (i + 1) (by simpa using hi)
   rw [show o + 1 + i = o + (i + 1) by omega, this]; rfl⟩
 | [], _ :: _, _, h, _ => h.elim
 | _ :: _, [], _, h, _ => h.elim
theorem flat_len {k : Nat} : ∀ {xs : List (List G)}, (∀ c ∈ xs, c.length = k) → xs.flatten.length = xs.length * k
 | [], _ => by simp
 | c :: xs, h => by
  rw [List.flatten_cons, List.length_append, h c (List.mem_cons_self ..), flat_len fun c hc => h c (List.mem_cons_of_mem _ hc), List.length_cons, Nat.succ_mul, Nat.add_comm]
def Reads (H : Type) (enc : TypeId × Value → H) (P : Program) (w : World) (base : Nat) (spare : Nat → Bool) (held : Bool) (t : TypeId) (l : List Sh) : Prop :=
 ∀ fuel cs x, DataW.trod enc P w base spare held fuel t cs = some x → ∃ gs, Is l gs ∧ Fits w (fun _ => False) gs cs
theorem slice_fits {t e : TypeId} {l : List Sh} (ht : P.underlying t = some (.slice e)) (hl : l.length = P.cellsOf e) (ih : Reads H enc P w base spare held e l) {fuel : Nat} {cs : List Value} {x : DataW H × List MemPlace}
  (h : DataW.trod enc P w base spare held fuel t cs = some x) :
  ∃ xs : List (List G), (∀ c ∈ xs, Is l c) ∧ Fits w (fun _ => False) [G.sl l.length xs] cs ∧ (xs = [] ∨ ∃ elems rest, x.1 = .slice elems rest ∧ elems.length = xs.length) := by
 rcases DataW.trod_slice ht h with ⟨rfl, rfl⟩ | ⟨a, len, cap, elems, rest, n, _, rfl, rfl, _, hlc, hcm, hlen, hel, _, _⟩
 ·exact ⟨[], by simp, ⟨⟨⟨none, 0, rfl, Nat.le_refl _, by simp, by simp, .inl ⟨rfl, fun _ => rfl⟩⟩, rfl⟩, trivial⟩, .inl rfl⟩
 ·have hsp : 0 < len → l.length ≠ 0 → a.spot = none := by
   intro hp hz;have h5 := hel 0 hp;rw [List.getElem?_eq_getElem (by omega), Option.bind_eq_some_iff] at h5;obtain ⟨csm, h6, _⟩ := h5;obtain ⟨_, g1, g2⟩ := World.cells?_some h6;have c0 := g2 0 (by omega);rw [List.getElem?_eq_getElem (by omega)] at c0;unfold World.cell? at c0
   split at c0
   ·split at c0
    ·cases c0
    ·rename_i hs
     simpa [Addr.add] using hs
   ·cases c0
  have key : ∀ m, m ≤ len → ∃ xs : List (List G), xs.length = m ∧ (∀ c ∈ xs, Is l c) ∧ Cells w (fun _ => False) a.block a.off xs.flatten := by
   intro m
   induction m with
   | zero => intro _; exact ⟨[], rfl, by simp, trivial⟩
   | succ m im =>
    intro hm;obtain ⟨xs, h1, h2, h4⟩ := im (by omega);have h5 := hel m (by omega);rw [List.getElem?_eq_getElem (by omega), Option.bind_eq_some_iff] at h5;obtain ⟨csm, h6, h7⟩ := h5;obtain ⟨gs, h8, h9⟩ := ih _ _ _ h7;obtain ⟨_, g1, g2⟩ := World.cells?_some h6;have gl := fits_len h9;have hx := h8.length;have hk : ∀ c ∈ xs, c.length = l.length := fun c hc => (h2 c hc).length;have fl := flat_len hk;refine ⟨xs ++ [gs], by simp [h1], ?_, ?_⟩
    ·intro c hc
     rcases List.mem_append.1 hc with hc | hc
     ·exact h2 c hc
     ·rw [List.mem_singleton.1 hc]; exact h8
    ·rw [List.flatten_append];refine cells_app h4 ?_;rw [List.flatten_cons, List.flatten_nil, List.append_nil]
     by_cases hz : l.length = 0
     ·rw [List.eq_nil_of_length_eq_zero (hx.trans hz)]; trivial
     ·have hs := hsp (by omega) hz;refine cells_mk_fits h9 fun i hi => ?_;have ci := g2 i (by omega);rw [← ci, fl, h1, hl]
      congr 1
      obtain ⟨ab, ao, as_⟩ := a;subst hs;simp only [Addr.add]
      split <;> split <;> simp_all
  obtain ⟨xs, h1, h2, h4⟩ := key len (Nat.le_refl _);refine ⟨xs, h2, ⟨⟨⟨some a, cap, by rw [h1], by omega, hcm, fun c hc => (h2 c hc).length, ?_⟩, rfl⟩, trivial⟩, .inr ⟨_, _, rfl, by simp [hlen, h1]⟩⟩
  by_cases hz : len = 0 ∨ l.length = 0
  ·refine .inl ⟨List.eq_nil_of_length_eq_zero ?_, fun e => by cases e⟩;rw [flat_len fun c hc => (h2 c hc).length, h1]
   rcases hz with hz | hz <;> simp [hz]
  ·refine .inr ⟨a.block, a.off, ?_, fun h => h, h4⟩;have := hsp (by omega) (by omega)
   cases a; simp_all
theorem fields_fits {n : Nat} (ih : ∀ t l, shOf P n t = some l → Reads H enc P w base spare held t l) : ∀ (fs : List Field) (o tot : Nat) (l : List Sh), fieldsSh P (shOf P n) fs o tot = some l →
  ∀ (fuel : Nat) (cs : List Value), cs.length = tot → (∀ f ∈ fs, ∃ y, DataW.trod enc P w base spare held fuel f.type ((cs.drop f.offset).take (P.cellsOf f.type)) = some y) → ∃ gs, Is l gs ∧ Fits w (fun _ => False) gs (cs.drop o)
 | [], o, tot, l, h, fuel, cs, hc, _ => by
  unfold fieldsSh at h
  split at h
  ·cases h; rename_i e; exact ⟨[], .nil, by rw [List.drop_eq_nil_of_le (by omega)]; trivial⟩
  ·cases h
 | f :: fs, o, tot, l, h, fuel, cs, hc, hf => by
  unfold fieldsSh at h
  split at h
  ·rename_i ho
   split at h
   ·rename_i l1 hl1
    split at h
    ·rename_i hlen
     split at h
     ·rename_i r hr
      cases h
      obtain ⟨y, hy⟩ := hf f (List.mem_cons_self ..);obtain ⟨gs1, k1, k2⟩ := ih _ _ hl1 _ _ _ hy;obtain ⟨gs2, k3, k4⟩ := fields_fits ih fs _ _ _ hr fuel cs hc fun g hg => hf g (List.mem_cons_of_mem _ hg);refine ⟨gs1 ++ gs2, k1.append k3, ?_⟩;rw [ho, ← hlen] at k2
      have : cs.drop o = (cs.drop o).take l1.length ++ cs.drop (o + l1.length) := by
       rw [← List.drop_drop, List.take_append_drop]
      rw [this];exact fits_app k2 k4
     ·cases h
    ·cases h
   ·cases h
  ·cases h
theorem sh_reads : ∀ (n : Nat) (t : TypeId) (l : List Sh), shOf P n t = some l → Reads H enc P w base spare held t l
 | 0, _, _, h => by cases h
 | n + 1, t, l, h => by
  intro fuel cs x hx;unfold shOf at h
  split at h
  ·rename_i k hu
   obtain ⟨m, rfl, _, hwf⟩ := DataW.trod_int hu hx;unfold Lit.wf at hwf;rw [Bool.and_eq_true, decide_eq_true_eq, decide_eq_true_eq] at hwf
   split at h
   ·cases h; exact ⟨[G.int m], .int m .nil, ⟨rfl, rfl⟩, trivial⟩
   ·cases h; exact ⟨[G.lit (.int _ m)], .num m hwf.1 hwf.2 .nil, ⟨rfl, rfl⟩, trivial⟩
  ·rename_i hu; cases h
   obtain ⟨s, rfl, _⟩ := DataW.trod_string hu hx;exact ⟨[G.str s], .str s .nil, ⟨rfl, rfl⟩, trivial⟩
  ·rename_i hu; cases h
   obtain ⟨b, rfl, _⟩ := DataW.trod_bool hu hx;exact ⟨[G.bool b], .bool b .nil, ⟨rfl, rfl⟩, trivial⟩
  ·rename_i e hu
   split at h
   ·rename_i le hle
    split at h
    ·rename_i hlen; cases h
     obtain ⟨xs, k1, k2, _⟩ := slice_fits hu hlen (sh_reads n e le hle) hx;exact ⟨_, .sl rfl k1 .nil, k2⟩
    ·cases h
   ·cases h
  ·rename_i fs hu
   obtain ⟨xs, m, _, _, hc, hlen, hf⟩ := DataW.trod_struct hu hx
   have := fields_fits (sh_reads n) fs.toList 0 _ l h m cs hc fun f hf' => by
    obtain ⟨i, hi⟩ := List.getElem?_of_mem hf'
    have hi' : fs[i]? = some f := by rw [← Array.getElem?_toList]; exact hi
    have hlt : i < xs.length := by rw [hlen]; exact (Array.getElem?_eq_some_iff.1 hi').1
    exact ⟨_, (hf i f hi').trans (List.getElem?_eq_getElem hlt)⟩
   simpa using this
  ·cases h
theorem arg_struct {r : Reach} {b0 : Nat} {t : TypeId} {fs : Array Field} {v : Value} {d : DataW H} {p : List MemPlace} {n : Nat} {l : List Sh} (hs : P.underlying t = some (.struct fs)) (hl : shOf P n t = some l) (hv : Value.okWide P w r b0 t v) (h : DataW.Trod enc P w base spare held t v d p) :
  ∃ gs, Is l gs ∧ (G.agg gs).p w (fun _ => False) v := by
 unfold Value.okWide at hv;rw [hs] at hv;obtain ⟨cs, rfl, _, _⟩ := hv;obtain ⟨fuel, hf⟩ := h;obtain ⟨gs, k1, k2⟩ := sh_reads n t l hl _ _ _ hf;exact ⟨gs, k1, cs.toList, rfl, k2⟩
end
end Go.Sim
namespace Go.Proofs.YtkeegnagpekgmaaDoor
open Go.ChangeShapes Go.WideShapes Go.ChangeAt Go.WideMaps Go.WideElems Go.RowKit
open Go.Sim (EG glT GlOk Cells G Grow)
abbrev laid2 : List (String × DataW Unit) := [("turnround/calendar.lengths", Rows.laid_turnround_calendar_lengths)]
theorem own : ownKnob Tryd.prog.godebug = none := by kernel_rfl
theorem laidOut : laidOutB Tryd.prog = true := by kernel_rfl
theorem gLen : Tryd.prog.globalNamed "turnround/calendar.lengths" = some 0 := by kernel_rfl
theorem tLen : (Tryd.prog.globals[0]?).map (·.type) = some 128 := by kernel_rfl
theorem uLen : Tryd.prog.underlying 128 = some (.array 12 3) := by kernel_rfl
theorem arr_cells {H : Type} {enc : TypeId × Value → H} {P : Program} {w : World} {base : Nat} {spare : Nat → Bool} {held : Bool} {α : Type} {f : α → DataW H} {g : α → Value} {t e : TypeId} {N : Nat} (ht : P.underlying t = some (.array N e)) (hc : P.cellsOf e = 1) (hN : P.cellsOf t = N)
  (hcell : ∀ fuel cs y a, DataW.trod enc P w base spare held fuel e cs = some y → y.1 = f a → cs = [g a]) {fuel : Nat} {cs : List Value} {l : List α} {ps : List MemPlace} (h : DataW.trod enc P w base spare held fuel t cs = some (.agg (l.map f), ps)) : cs = l.map g := by
 obtain ⟨xs, m, _, hx, hl, hn, hel⟩ := DataW.trod_array ht h;simp only [Prod.mk.injEq, DataW.agg.injEq] at hx
 have hlen : l.length = xs.length := by simpa using congrArg List.length hx.1
 apply List.ext_getElem
 ·rw [List.length_map, hl, hN]; omega
 ·intro i h1 h2
  have h3 : i < xs.length := by rw [List.length_map] at h2; omega
  have h4 := hel i (by omega);rw [hc, Nat.mul_one, List.getElem?_eq_getElem h3] at h4
  have h5 : (xs[i]).1 = f (l[i]'(by omega)) := by
   have := congrArg (fun q => q[i]?) hx.1;simp only [List.getElem?_map] at this;rw [List.getElem?_eq_getElem h3, List.getElem?_eq_getElem (by omega : i < l.length)] at this
   simpa using this.symm
  have h6 := hcell _ _ _ _ h4 h5;rw [List.getElem_map]
  have h7 : (cs.drop i).take 1 = [cs[i]] := by rw [List.drop_eq_getElem_cons h1]; rfl
  rw [h7] at h6;exact (List.cons.inj h6).1
theorem cells_of_list {W : World} {g : Nat} : ∀ {vs : List Value} {o : Nat}, (∀ v ∈ vs, v.oneCell' = true) → (∀ i v, vs[i]? = some v → W.cell? ⟨g, o + i, none⟩ = some v) → Cells W (fun _ => False) g o (vs.map G.lit)
 | [], _, _, _ => trivial
 | v :: vs, o, h1, h2 => ⟨⟨v, by simpa using h2 0 v rfl, rfl, h1 v (List.mem_cons_self ..)⟩, cells_of_list (fun u hu => h1 u (List.mem_cons_of_mem _ hu)) fun i u hu => by
   have := h2 (i + 1) u (by simpa using hu)
   rw [show o + 1 + i = o + (i + 1) by omega]; exact this⟩
theorem glOk_of_laid {W : World} (h : laidMetH Tryd.prog laid2 W) : GlOk (EG glT) W (fun _ => False) := by
 rw [MakeChecks.laidMetH_plain _ _ _ (by kernel_rfl)] at h;obtain ⟨ps, ⟨g0, t0, cs0, f0, p0, q0, hg0, ht0, hv0, hd0, _, _⟩, _, _⟩ := h;obtain rfl := Option.some.inj (gLen.symm.trans hg0);obtain rfl := Option.some.inj (tLen.symm.trans ht0)
 have e0 : cs0.toList = Sim.lengthCells := by
  refine arr_cells (α := Int) (f := fun n => .lit (.int .i64 n)) (g := fun n => .int .i64 n) (l := [31, 28, 31, 30, 31, 30, 31, 31, 30, 31, 30, 31]) uLen (by kernel_rfl) (by kernel_rfl) ?_ hd0;intro fuel cs y a hy ha;obtain ⟨n, rfl, rfl, _⟩ := DataW.trod_int Tryd.underlying3 hy
  simp at ha; rw [ha]
 have c0 := fun i => World.var?_cell hg0 hv0 i;intro g vs hgv
 have hgv : (g, vs) = (0, Sim.lengthCells) := by simpa [EG, glT] using hgv
 cases hgv
 refine ⟨⟨fun h => h, ?_⟩, cells_of_list (by unfold Sim.lengthCells; intro v hv; obtain ⟨n, _, rfl⟩ := List.mem_map.1 hv; rfl) fun i v hv => ?_⟩
 ·have := c0 0;rw [← Array.getElem?_toList, e0] at this;exact Go.block_lt_of_cell (a := ⟨0, 0, none⟩) this
 ·rw [Nat.zero_add, c0 i, ← Array.getElem?_toList, e0]; exact hv
end Go.Proofs.YtkeegnagpekgmaaDoor
namespace Go.Proofs.YtkeegnagpekgmaaDoor
open Go.ChangeShapes Go.WideShapes Go.ChangeAt Go.WideMaps Go.WideElems Go.RowKit
open Go.Sim (EG glT GlOk Cells G Grow)
set_option maxRecDepth 100000 in
theorem door_met (os : Os) (args : Array Value) : laidMetH Tryd.prog laid2 ((World.doorLaid Tryd.prog 400 os).forCall (fun _ _ => 0) ⟨#[], args, []⟩).memory := by
 rw [MakeChecks.laidMetH_plain _ _ _ (by kernel_rfl)];refine laidMet_of_run' 8 ?_ ?_
 ·kernel_rfl
 ·kernel_rfl
theorem trodAll_grow {H : Type} {enc : TypeId × Value → H} {P : Program} (hl : laidOutB P = true) {W W' : World} (hb : Below W.heap.size W W') : ∀ {ts : List TypeId} {vs : List Value} {ds : List (DataW H)} {ps : List MemPlace}, (∀ t ∈ ts, P.readableRec t = true ∧ t < P.types.size) → (∀ x ∈ ps, x.block < W.heap.size) →
  DataW.TrodAll enc P W 0 (fun _ => true) true ts vs ds ps → DataW.TrodAll enc P W' 0 (fun b => decide (b < W.heap.size)) true ts vs ds ps
 | [], [], [], _, _, _, h => h
 | t :: ts, v :: vs, d :: ds, ps, ht, hp, ⟨p, q, h1, h2, h3⟩ => by
  subst h3;have := ht t (List.mem_cons_self ..);exact ⟨p, q, Below.trod hl this.1 this.2 h1 hb fun x hx => hp x (List.mem_append_left _ hx), trodAll_grow hl hb (fun t h => ht t (List.mem_cons_of_mem _ h)) (fun x hx => hp x (List.mem_append_right _ hx)) h2, rfl⟩
 | [], _ :: _, _, _, _, _, h => h.elim
 | [], [], _ :: _, _, _, _, h => h.elim
 | _ :: _, [], _, _, _, _, h => h.elim
 | _ :: _, _ :: _, [], _, _, _, h => h.elim
theorem post_law {H : Type} {enc : TypeId × Value → H} {P : Program} (hl : laidOutB P = true) {f : Func} {s : ChangeSpec} {W W' : World} {args : Array Value} {ds gs : List (DataW H)} {before : List MemPlace} (ht4 : P.underlying 4 = some .bool)
  (hW : DataW.Whole enc P f.params.toList s.vars false W args.toList ds gs before) (hvars : s.vars = []) (hres : f.resultTypes = #[4]) (hts : ∀ t ∈ f.params.toList, P.readableRec t = true ∧ t < P.types.size)
  (hs : s.fn H (ds ++ gs) = { results := [.lit (.bool true)], args := ds }) (hg : Below W.heap.size W W') : s.post enc P f false true false false W args (.bool true) W' := by
 have hW' := hW;obtain ⟨p, q, hA, hV, hb, _, _⟩ := hW;rw [hvars] at hV;obtain ⟨rfl, rfl⟩ := trodVars_none hV;rw [List.append_nil] at hb;subst hb;have hlt : ∀ x ∈ before, x.block < W.heap.size := fun x hx => hW'.lt x hx;refine ⟨_, _, _, [], before, [], hW', ?_, ?_, ?_, hg.frame _, fun h => by cases h⟩
 ·rw [hs, hres];exact trodAll_mk1 (shut_bool ht4 _)
 ·rw [hs];exact trodAll_grow hl hg hts hlt hA
 ·rw [hs, hvars]; rfl
end Go.Proofs.YtkeegnagpekgmaaDoor
namespace Go.Sim
open Go.ChangeShapes Go.WideShapes
theorem arg_array {H : Type} {enc : TypeId × Value → H} {P : Program} {w : World} {base : Nat} {spare : Nat → Bool} {held : Bool} {r : Reach} {b0 : Nat} {t e : TypeId} {N : Nat} {v : Value} {d : DataW H} {p : List MemPlace} {n : Nat} {l : List Sh} (hs : P.underlying t = some (.array N e)) (hl : shOf P n e = some l) (hle : l.length = P.cellsOf e) (hct : P.cellsOf t = N * l.length)
  (hv : Value.okWide P w r b0 t v) (h : DataW.Trod enc P w base spare held t v d p) :
  ∃ xs : List (List G), xs.length = N ∧ (∀ c ∈ xs, Is l c) ∧ (G.agg xs.flatten).p w (fun _ => False) v := by
 unfold Value.okWide at hv;rw [hs] at hv;obtain ⟨cs, rfl, _, _⟩ := hv;obtain ⟨fuel, hf⟩ := h;obtain ⟨ys, m, _, _, hc, hlen, hff⟩ := DataW.trod_array hs hf;have hcells : (Value.agg cs).cells.toList = cs.toList := rfl;rw [hcells] at hc hff
 have key : ∀ q, q ≤ N → ∃ xs : List (List G), xs.length = q ∧ (∀ c ∈ xs, Is l c) ∧ Fits w (fun _ => False) xs.flatten (cs.toList.take (q * l.length)) := by
  intro q
  induction q with
  | zero => intro _; exact ⟨[], rfl, by simp, by simp [Fits]⟩
  | succ q iq =>
   intro hq;obtain ⟨xs, h1, h2, h3⟩ := iq (by omega);have h4 := hff q (by omega);rw [List.getElem?_eq_getElem (by omega)] at h4;obtain ⟨gs, h5, h6⟩ := sh_reads n e l hl _ _ _ h4;refine ⟨xs ++ [gs], by simp [h1], ?_, ?_⟩
   ·intro c hc'
    rcases List.mem_append.1 hc' with hc' | hc'
    ·exact h2 c hc'
    ·rw [List.mem_singleton.1 hc']; exact h5
   ·rw [List.flatten_append, List.flatten_cons, List.flatten_nil, List.append_nil, Nat.succ_mul, List.take_add];rw [← hle] at h6;exact fits_app h3 h6
 obtain ⟨xs, h1, h2, h3⟩ := key N (Nat.le_refl N);refine ⟨xs, h1, h2, cs.toList, rfl, ?_⟩
 rwa [List.take_of_length_le (by rw [hc, hct]; exact Nat.le_refl _)] at h3
theorem list_two {α : Type} {l : List α} (h : l.length = 2) : ∃ x y, l = [x, y] := by
 match l, h with
 | [x, y], _ => exact ⟨x, y, rfl⟩
section
variable {E : Env} {w0 : World} {M0 : Nat → Prop}
theorem BRel.has {w : World} {M : Nat → Prop} {ρ : Rho} {id : Nat} {blk : Blk} (hg : blk.live = true) (h : BRel w M ρ id blk) : ∃ x, ρ id = some x := by
 cases blk with
 | box cs => obtain ⟨ow, e, vs, h1, _⟩ := h; exact ⟨_, h1⟩
 | arr e k xs =>
  rcases h with ⟨h1, _⟩ | ⟨ow, vs, h1, _⟩
  ·exact ⟨_, h1⟩
  ·exact ⟨_, h1⟩
 | mp es => obtain ⟨ow, en, cl, h1, _⟩ := h; exact ⟨_, h1⟩
 | obj o => obtain ⟨ow, h1, _⟩ := h; exact ⟨_, h1⟩
 | mit es seen => obtain ⟨ow, h1, _⟩ := h; exact ⟨_, h1⟩
 | gone => cases hg
theorem BRel.sub {w : World} {M M' : Nat → Prop} {ρ : Rho} {id : Nat} {blk : Blk} (h : BRel w M ρ id blk) (hM : ∀ b, M' b → M b) : BRel w M' ρ id blk :=
 h.mono none (by simp) (noref_none _) (fun _ _ => rfl) (fun _ _ _ => rfl) (fun b _ => hM b) (fun _ _ _ => rfl)
theorem BelowX.mono {L L' : Nat → Prop} {a b : World} (h : BelowX L a b) (hl : ∀ k, L k → L' k) : BelowX L' a b := ⟨h.os, h.tape, h.output, h.size, fun k hk hn => h.block k hk fun h => hn (hl k h)⟩
def ArgsT (w : World) (M : Nat → Prop) (ρ : Rho) : List TV → List Value → Prop
 | [], [] => True
 | c :: cs, v :: vs => TRel w M ρ c v ∧ ArgsT w M ρ cs vs
 | _, _ => False
theorem ArgsT.length {w : World} {M : Nat → Prop} {ρ : Rho} : ∀ {cs : List TV} {vs : List Value}, ArgsT w M ρ cs vs → vs.length = cs.length
 | [], [], _ => rfl
 | _ :: _, _ :: _, h => by simp [ArgsT.length h.2]
 | [], _ :: _, h => h.elim
 | _ :: _, [], h => h.elim
end
section
variable {E : Env} {w0 : World} {M0 : Nat → Prop}
theorem Fits.setAt {w : World} {M : Nat → Prop} {cells cs : List G} {vcells vs : List Value} (off : Nat) (h : Fits w M cells vcells) (k : Fits w M cs vs) : Fits w M (Sim.setAt cells off cs) (Sim.setAt vcells off vs) := by
 unfold Sim.setAt;rw [k.length];exact ((h.take off).append k).append (h.drop _)
def copyL {α : Type} (d s : List α) : List α := s.take d.length ++ d.drop s.length
end
section
variable {E : Env} {w0 : World} {M0 : Nat → Prop}
def mget {K V : Type} [DecidableEq K] : List (K × V) → K → Option V
 | [], _ => none
 | (a, b) :: r, k => bif decide (a = k) then some b else mget r k
def mset {K V : Type} [DecidableEq K] : List (K × V) → K → V → List (K × V)
 | [], k, v => [(k, v)]
 | (a, b) :: r, k, v => bif decide (a = k) then (k, v) :: r else (a, b) :: mset r k v
def mgetD {K V : Type} [DecidableEq K] (m : List (K × V)) (k : K) (z : V) : V := match mget m k with
 | some v => v
 | none => z
def mhas {K V : Type} [DecidableEq K] (m : List (K × V)) (k : K) : Bool := (mget m k).isSome
class MKey {K : Type} (kf : K → Value) (d : outParam TypeDesc) : Prop where
 isKey : ∀ a, MapKept.IsKey d (kf a)
 inj : ∀ a b, kf a = kf b → a = b
instance : MKey (Value.int .i64) (.int .i64) := ⟨fun _ => rfl, fun a b h => by injection h⟩
instance : MKey Value.string .string := ⟨fun _ => trivial, fun a b h => by injection h⟩
instance : MKey Value.bool .bool := ⟨fun _ => trivial, fun a b h => by injection h⟩
def mpB {K V : Type} (kf : K → Value) (vf : V → G) (m : List (K × V)) : Blk := .mp (m.map fun p => (kf p.1, vf p.2))
section find
variable {K V : Type} [DecidableEq K] {kf : K → Value} {vf : V → G} {d : TypeDesc} [MKey kf d] {w : World} {M : Nat → Prop}
theorem mfind {k : K} : ∀ {m : List (K × V)} {l : List MapEntry} (i : Nat), MFits w M (m.map fun p => (kf p.1, vf p.2)) l →
  (mget m k = none ∧ Instr.findNow d (kf k) l i = some none ∧ (∀ x ∈ l, x.key ≠ kf k) ∧ ∀ v, mset m k v = m ++ [(k, v)]) ∨
  ∃ j e b, mget m k = some b ∧ Instr.findNow d (kf k) l i = some (some (i + j, e.val)) ∧ l[j]? = some e ∧ e.key = kf k ∧ (vf b).p w M e.val ∧ ∀ v, mset m k v = m.set j (k, v)
 | [], [], i, _ => .inl ⟨rfl, rfl, by simp, fun _ => rfl⟩
 | (a, b) :: m, e :: l, i, h => by
  obtain ⟨⟨h1, h2⟩, h3⟩ := h;obtain ⟨r, hr, hiff⟩ := MapKept.sameNow_of_keys (MKey.isKey (kf := kf) k) (show MapKept.IsKey d e.key by rw [h1]; exact MKey.isKey (kf := kf) a)
  by_cases hak : a = k
  ·subst hak;have : r = true := hiff.2 h1.symm;subst this;exact .inr ⟨0, e, b, by simp [mget], by simp [Instr.findNow, hr], rfl, h1, h2, fun v => by simp [mset]⟩
  ·have hne : e.key ≠ kf k := fun q => hak (MKey.inj (kf := kf) a k (h1.symm.trans q))
   have : r = false := by cases r with
    | true => exact absurd (hiff.1 rfl).symm hne
    | false => rfl
   subst this
   rcases mfind (k := k) (i + 1) h3 with ⟨g1, g2, g3, g4⟩ | ⟨j, e', b', g1, g2, g3, g4, g5, g6⟩
   ·exact .inl ⟨by simp [mget, hak, g1], by simp [Instr.findNow, hr, g2], fun x hx => by
     rcases List.mem_cons.1 hx with rfl | hx
     ·exact hne
     ·exact g3 x hx, fun v => by simp [mset, hak, g4]⟩
   ·exact .inr ⟨j + 1, e', b', by simp [mget, hak, g1], by simp [Instr.findNow, hr, g2]; omega, by simpa using g3, g4, g5, fun v => by simp [mset, hak, g6]⟩
 | [], _ :: _, _, h => h.elim
 | _ :: _, [], _, h => h.elim
theorem MFits.push : ∀ {es : List (Value × G)} {l : List MapEntry} {x : Value × G} {e : MapEntry}, MFits w M es l → e.key = x.1 → x.2.p w M e.val → MFits w M (es ++ [x]) (l ++ [e])
 | [], [], (_, _), _, _, h1, h2 => ⟨⟨h1, h2⟩, trivial⟩
 | (_, _) :: _, _ :: _, _, _, h, h1, h2 => ⟨h.1, MFits.push h.2 h1 h2⟩
 | [], _ :: _, _, _, h, _, _ => h.elim
 | _ :: _, [], _, _, h, _, _ => h.elim
theorem MFits.set : ∀ {es : List (Value × G)} {l : List MapEntry} {x : Value × G} {e : MapEntry} (j : Nat), MFits w M es l → e.key = x.1 → x.2.p w M e.val → MFits w M (es.set j x) (l.set j e)
 | [], [], _, _, _, h, _, _ => h
 | (_, _) :: _, _ :: _, (_, _), _, 0, h, h1, h2 => ⟨⟨h1, h2⟩, h.2⟩
 | (_, _) :: _, _ :: _, _, _, j + 1, h, h1, h2 => ⟨h.1, MFits.set j h.2 h1 h2⟩
 | [], _ :: _, _, _, _, h, _, _ => h.elim
 | _ :: _, [], _, _, _, h, _, _ => h.elim
end find
theorem look_mp {ρ : Rho} {w : World} {mem : Mem} {id : Nat} {es : List (Value × G)} {v : Value} (hm : MRel E w0 M0 ρ mem w) (hb : lookO mem id = some (.mp es)) (hv : TRel w (owned M0 ρ) ρ (.omap id) v) :
  ∃ ow entries clock, ρ id = some (some ow) ∧ v = .map (some ow.b) ∧ w.heap[ow.b]? = some (.map entries clock) ∧ MFits w (owned M0 ρ) es entries.toList ∧ MapKept.Stamped entries clock := by
 obtain ⟨ow, h1, h2⟩ := hv;obtain ⟨ow', en, cl, g1, g2, g3, g4⟩ := hm.blk id _ hb
 have : ow' = ow := by rw [h1] at g1; simpa using g1.symm
 subst this;exact ⟨ow', en, cl, h1, h2, g2, g3, g4⟩
theorem eff_makeMap {o : Oper} {mem : Mem} {ev : Operand → TV} {t : TypeId} (id : Nat) (ho : o.op = .makeMap t none) (hf : lookO mem id = none) : EffW E o mem ev (.omap id) ((id, .mp []) :: mem) none := by
 intro w0 M0 ρ w e' hm _
 have hrun : (execOp e' o).run E.P w = .ok (.value (.map (some w.heap.size))) (w.alloc (.map #[] 0)) := by simp [execOp, ho, Instr.makeMap]
 rw [hrun];have hr0 := rho_none hm hf;obtain ⟨k1, k2⟩ := mrel_upd (id := id) (x := some ⟨w.heap.size, 0, 0⟩) (blk' := .mp []) none hm (diff_alloc ρ id w (.map #[] 0)) (fun o ho => by cases ho; exact ⟨.inl (Nat.le_refl _), by simp⟩) (.inr ⟨rfl, .inl hr0⟩) (fun _ b _ _ => noref_none b) (.inl rfl)
  ⟨⟨w.heap.size, 0, 0⟩, #[], 0, rhoSet_same _ _ _, heap_alloc_new w _, trivial, MapKept.stamped_empty 0⟩
 exact ⟨_, k1, k2, ⟨w.heap.size, 0, 0⟩, rhoSet_same _ _ _, rfl⟩
section ops
variable {K V : Type} [DecidableEq K] {kf : K → Value} {vf : V → G} {d : TypeDesc} [MKey kf d] {o : Oper} {mem : Mem} {ev : Operand → TV} {t kt et : TypeId} {x ix : Operand} {id : Nat} {m : List (K × V)} {k : K} {z : V}
theorem run_lookup {ρ : Rho} {w : World} (hm : MRel E w0 M0 ρ mem w) (ht : E.P.underlying t = some (.map kt et)) (hk : E.P.underlying kt = some d) {zv : Value} (hz : (E.P.info? et).bind (·.zero) = some zv) (hz0 : ∀ w M, (vf z).p w M zv)
  (hb : lookO mem id = some (mpB kf vf m)) {v : Value} (hv : TRel w (owned M0 ρ) ρ (.omap id) v) (ok : Bool) : ∃ u, (vf (mgetD m k z)).p w (owned M0 ρ) u ∧ (Instr.lookup t v (kf k) ok).run E.P w = .ok (if ok then .tuple #[u, .bool (mhas m k)] else u) w := by
 obtain ⟨ow, en, cl, h1, rfl, h2, h3, _⟩ := look_mp hm hb hv
 have hzr : (zeroValue et).run E.P w = .ok zv w := by
  cases hi : E.P.info? et with
  | none => rw [hi] at hz; cases hz
  | some i =>
   rw [hi] at hz;have hz : i.zero = some zv := hz
   simp [zeroValue, typeInfo, hi, hz]
 have hck := MapKept.run_checkKey (w := w) hk (MKey.isKey (kf := kf) k) en.isEmpty 9999
 rcases mfind (kf := kf) (vf := vf) (k := k) 0 h3 with ⟨g1, g2, _⟩ | ⟨j, e, b, g1, g2, g3, g4, g5, _⟩
 ·refine ⟨zv, by simp only [mgetD, g1]; exact hz0 _ _, ?_⟩
  simp [Instr.lookup, run_underlying ht, MapKept.run_getObj_map h2, hck, MapKept.run_findKey hk g2, hzr, mhas, g1]
 ·refine ⟨e.val, by simp only [mgetD, g1]; exact g5, ?_⟩
  simp [Instr.lookup, run_underlying ht, MapKept.run_getObj_map h2, hck, MapKept.run_findKey hk g2, mhas, g1]
theorem eff_lookup {zv : Value} (ho : o.op = .lookup t x ix false) (ht : E.P.underlying t = some (.map kt et)) (hk : E.P.underlying kt = some d) (hz : (E.P.info? et).bind (·.zero) = some zv) (hz0 : ∀ w M, (vf z).p w M zv)
  (hx : ev x = .omap id) (hi : ev ix = .g (.lit (kf k))) (hb : lookO mem id = some (mpB kf vf m)) : Eff E o mem ev (.g (vf (mgetD m k z))) := by
 intro w0 M0 ρ w e hm he;have h1 := he x (by rw [ho]; simp [Op.operands]);rw [hx] at h1;have h2 := he ix (by rw [ho]; simp [Op.operands]);rw [hi] at h2;have h2' : e ix = kf k := h2;obtain ⟨u, g1, g2⟩ := run_lookup (z := z) (k := k) hm ht hk hz hz0 hb h1 false
 have : (execOp e o).run E.P w = .ok (.value u) w := by simp only [execOp, ho, h2', Sem.run_bind, g2, Result.andThen_ok, Sem.run_pure]; rfl
 rw [this];exact ⟨Grow.refl w, g1⟩
theorem toList_modify {es : Array MapEntry} {j : Nat} {e : MapEntry} {F : MapEntry → MapEntry} (h : es.toList[j]? = some e) : (es.modify j F).toList = es.toList.set j (F e) := by
 apply List.ext_getElem?
 intro i;simp only [Array.getElem?_toList, Array.getElem?_modify, List.getElem?_set]
 have h' : es[j]? = some e := by simpa using h
 have hlt : j < es.size := (Array.getElem?_eq_some_iff.1 h').1
 by_cases hij : j = i
 ·subst hij; rw [if_pos rfl, if_pos rfl, h']; simp [hlt]
 ·simp [hij]
theorem eff_update {y : Operand} {v : V} {ins : Bool} (ho : o.op = (if ins then .insert t x ix y else .mapUpdate t x ix y)) (ht : E.P.underlying t = some (.map kt et)) (hk : E.P.underlying kt = some d)
  (hx : ev x = .omap id) (hi : ev ix = .g (.lit (kf k))) (hy : ev y = .g (vf v)) (hb : lookO mem id = some (mpB kf vf m)) : EffW E o mem ev undefT ((id, mpB kf vf (mset m k v)) :: mem) none := by
 intro w0 M0 ρ w e' hm he
 have hop : ∀ (P : Op → Prop), P (.insert t x ix y) → P (.mapUpdate t x ix y) → P o.op := fun P h1 h2 => by rw [ho]; cases ins <;> assumption
 have hmem : ∀ q, q = x ∨ q = ix ∨ q = y → q ∈ o.op.operands := fun q hq => by
  rw [ho]; cases ins <;> simp [Op.operands] <;> exact hq
 have h1 := he x (hmem _ (.inl rfl));rw [hx] at h1;have h2 := he ix (hmem _ (.inr (.inl rfl)));rw [hi] at h2;have h2' : e' ix = kf k := h2;have h3 := he y (hmem _ (.inr (.inr rfl)));rw [hy] at h3;have h3' : (vf v).p w (owned M0 ρ) (e' y) := h3;obtain ⟨ow, en, cl, g1, g2, g3, g4, g5⟩ := look_mp hm hb h1;have hck := MapKept.run_checkKey (w := w) hk (MKey.isKey (kf := kf) k) false 9999
 have hexec : execOp e' o = (do Instr.mapUpdate t (e' x) (e' ix) (e' y); pure .skip) := by cases ins <;> simp [execOp, ho]
 have hset : ∀ (ob : Obj), (w.heap.setIfInBounds ow.b ob).size = w.heap.size := fun ob => by simp
 have hlt : ow.b < w.heap.size := (Array.getElem?_eq_some_iff.1 g3).1
 -- what the new map is
 obtain ⟨en', cl', hrun, hf, hst⟩ : ∃ en' cl', (Instr.mapUpdate t (e' x) (e' ix) (e' y)).run E.P w = .ok () { w with heap := w.heap.setIfInBounds ow.b (.map en' cl') } ∧ MFits w (owned M0 ρ) ((mset m k v).map fun p => (kf p.1, vf p.2)) en'.toList ∧ MapKept.Stamped en' cl' := by
  rcases mfind (kf := kf) (vf := vf) (k := k) 0 g4 with ⟨q1, q2, q3, q4⟩ | ⟨j, e, b, q1, q2, q3, q4, q5, q6⟩
  ·refine ⟨en.push { key := kf k, val := e' y, born := cl }, cl + 1, ?_, ?_, MapKept.stamped_push g5 q3⟩
   ·simp [Instr.mapUpdate, g2, h2', run_underlying ht, MapKept.run_getObj_map g3, hck, MapKept.run_findKey hk q2, MapKept.run_setObj_map _ g3]
   ·rw [q4 v, List.map_append, Array.toList_push];exact MFits.push g4 rfl h3'
  ·have hj : en[j]? = some e := by simpa using q3
   refine ⟨en.modify j fun e => { e with key := kf k, val := e' y }, cl, ?_, ?_, MapKept.stamped_modify g5 _ _ (fun _ _ => rfl) (fun e0 _ he0 => by rw [hj] at he0; cases he0; exact q4.symm)⟩
   ·rw [Nat.zero_add] at q2
    simp [Instr.mapUpdate, g2, h2', run_underlying ht, MapKept.run_getObj_map g3, hck, MapKept.run_findKey hk q2, hj, q4, MapKept.run_keyThatStays (MKey.isKey (kf := kf) k), MapKept.run_setObj_map _ g3]
   ·rw [q6 v, toList_modify q3, List.map_set];exact MFits.set j g4 rfl h3'
 have hrun2 : (execOp e' o).run E.P w = .ok .skip { w with heap := w.heap.setIfInBounds ow.b (.map en' cl') } := by rw [hexec, Sem.run_bind, hrun]; rfl
 rw [hrun2];have hoth := (MapKept.heap_set (o' := .map en' cl') g3).2;have hd : Diff ρ id w { w with heap := w.heap.setIfInBounds ow.b (.map en' cl') } := ⟨rfl, rfl, rfl, by simp, fun b _ hne => hoth b (hne ow g1)⟩
 have hM : ∀ b, b < w.heap.size → owned M0 (rhoSet ρ id (some ow)) b → owned M0 ρ b := by
  rintro b hb (h | ⟨i, o, h, rfl⟩)
  ·exact .inl h
  ·by_cases hi : i = id
   ·subst hi; rw [rhoSet_same] at h; cases h; exact .inr ⟨i, ow, g1, rfl⟩
   ·exact .inr ⟨i, o, by simpa [rhoSet, hi] using h, rfl⟩
 have hh : ∀ b, b < w.heap.size → ¬ owned M0 ρ b → ({ w with heap := w.heap.setIfInBounds ow.b (.map en' cl') } : World).heap[b]? = w.heap[b]? := fun b _ hno => hoth b fun he => hno (.inr ⟨id, ow, g1, he.symm⟩);obtain ⟨k1, k2⟩ := mrel_upd (id := id) (x := some ow) (blk' := mpB kf vf (mset m k v)) none hm hd (fun o ho => by cases ho; exact ⟨.inr ⟨ow, g1, rfl⟩, by simpa using hlt⟩) (.inr ⟨rfl, .inr g1⟩) (fun _ b _ _ => noref_none b) (.inl rfl)
  ⟨ow, en', cl', rhoSet_same _ _ _, (MapKept.heap_set (o' := .map en' cl') g3).1, hf.mono hh hM, hst⟩
 exact ⟨_, k1, k2, rfl⟩
end ops
end
section
variable {E : Env} {w0 : World} {M0 : Nat → Prop}
theorem copyL_len {α : Type} (d s : List α) : (copyL d s).length = d.length := by
 unfold copyL;rw [List.length_append, List.length_take, List.length_drop]; omega
end
section
variable {E : Env} {w0 : World} {M0 : Nat → Prop}
def G.new (n : Nat) (e : TypeId) (k : Nat) (xs : List (List G)) : G :=
 ⟨fun w M u => (u = .slice none 0 0 ∧ xs = []) ∨ ∃ ow : Own, ∃ vs : Array Value, ∃ p, u = .slice (some ⟨ow.b, p, none⟩) xs.length ow.cap ∧ (0 < ow.cap → p = ow.o) ∧ n ≤ ow.b ∧ ¬ M ow.b ∧ w.heap[ow.b]? = some (.cells vs e (0, 0)) ∧ xs.length ≤ ow.cap ∧ ow.cap ≤ maxLen ∧
   (ow.cap = 0 ∨ ow.o + ow.cap * k ≤ vs.size) ∧ (∀ c ∈ xs, c.length = k) ∧ Fits w (fun b => M b ∨ b = ow.b) xs.flatten ((vs.toList.drop ow.o).take (xs.length * k)), fun {w w' M M' u} h hh hM => by
  rcases h with h | ⟨ow, vs, p, h1, h1', h2, h3, h4, h5, h6, h7, h8, h9⟩
  ·exact .inl h
  ·have hlt : ow.b < w.heap.size := (Array.getElem?_eq_some_iff.1 h4).1
   exact .inr ⟨ow, vs, p, h1, h1', h2, fun h => h3 (hM _ hlt h), by rw [hh _ hlt h3]; exact h4, h5, h6, h7, h8, h9.mono (fun b hb hn => hh b hb fun h => hn (.inl h)) (fun b hb h => h.imp (hM b hb) id)⟩⟩
def PureL (l : List G) : Prop := ∀ g ∈ l, ∀ w M v w' M', g.p w M v → g.p w' M' v
theorem Fits.pure {w w' : World} {M M' : Nat → Prop} : ∀ {l : List G} {vs : List Value}, PureL l → Fits w M l vs → Fits w' M' l vs
 | [], [], _, _ => trivial
 | g :: l, v :: vs, hp, h => ⟨⟨hp g List.mem_cons_self _ _ _ _ _ h.1.1, h.1.2⟩, Fits.pure (fun g hg => hp g (List.mem_cons_of_mem _ hg)) h.2⟩
 | [], _ :: _, _, h => h.elim
 | _ :: _, [], _, h => h.elim
theorem eff_ixArr {α : Type} {f : α → List G} {l : List α} {o : Oper} {ev : Operand → TV} {t el : TypeId} {x ix : Operand} {k N : Nat} {b : Bool} {kk : IntKind} {n : Int} {a : α} {cs : List G} (ho : o.op = .indexAddr t x ix) (ht : E.P.underlying t = some (.array N el)) (he : tyK E.P el = some (k + 1, b))
  (hx : ev x = .g (.ref cs)) (hcs : cs = (l.map f).flatten) (hf : ∀ a, (f a).length = k + 1) (hN : l.length = N) (hi : ev ix = .g (.lit (.int kk n))) (h0 : 0 ≤ n) (ha : l[n.toNat]? = some a) (mem : Mem) : Eff E o mem ev (.g (.ref (f a))) :=
 eff_same (fun w M ρ e hev => by
  subst hcs;have h1 := hev x (by rw [ho]; simp [Op.operands]);rw [hx] at h1;have h2 := hev ix (by rw [ho]; simp [Op.operands]);rw [hi] at h2;have h2' : e ix = .int kk n := h2;obtain ⟨bl, off, h3, h4, h5⟩ := h1;have hlt : n.toNat < l.length := (List.getElem?_eq_some_iff.1 ha).1
  have hn : n < (N : Int) := by omega
  have hck : ∀ c ∈ l.map f, c.length = k + 1 := fun c hc => by obtain ⟨y, _, rfl⟩ := List.mem_map.1 hc; exact hf y
  have hne : (l.map f).flatten ≠ [] := by
   intro h;have := flatten_len hck;rw [h, List.length_map] at this;have h9 : 0 < l.length * (k + 1) := Nat.mul_pos (by omega) (Nat.succ_pos k);rw [← this] at h9;exact Nat.lt_irrefl _ h9
  refine ⟨.pointer (some ⟨bl, off + n.toNat * (k + 1), none⟩), ?_, bl, _, rfl, .inr (h4.resolve_left hne), cells_elem hck h5 (by rw [List.getElem?_map, ha]; rfl)⟩
  simp [execOp, ho, h3, h2', Instr.indexAt, asIntOf, underlying, ht, Instr.sureAddr, run_sizeOf he, h0, hn, Addr.add_lit]) mem
end
end Go.Sim
