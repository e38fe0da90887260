/-
  What is proved: lemmas and contracts of functions on the way to the law useCarries (part 8).
-/
import Derived.Test.YtdfgeoefbbkcnaaGreatDoorVrA7
import Derived.Test.YtdfgeoefbbkcnaaGreatDoorVrA6
import Derived.Test.YtdfgeoefbbkcnaaGreatDoorVrA4
import Derived.ProofKit
import Derived.Test.YtdfgeoefbbkcnaaGreatDoorRows
import Derived.Test.YtdfgeoefbbkcnaaGreatDoorTie
import Derived.LaidMore
import Derived.OpenShut
import Derived.Stop.Joined
import Derived.Carry
import Derived.Test.YtdfgeoefbbkcnaaGreatDoorVrA5
set_option linter.unusedSectionVars false
set_option linter.unusedSimpArgs false
set_option linter.unusedVariables false
set_option linter.unnecessarySimpa false
set_option linter.deprecated false
namespace Go.Sim
open Go.Proofs Go.Ex
theorem ex16 : ∃ b : Bool, b = true := ⟨true, rfl⟩
noncomputable def s16 : Bool := ex16.choose
theorem qp8 : s16 = true := ex16.choose_spec
theorem c16 : Con (EG glT) 16 [] (G.bool s16) := by
 obtain ⟨h', c', h⟩ := qlw ql7;rw [qp8];exact j8 (vs := []) qto qvt (by decide) (qfy (by decide)) h
end Go.Sim
set_option maxRecDepth 10000
namespace Go.Sim
open Go.Proofs
noncomputable def s3 (a0 : S23) (a1 : List S151) (a2 : List S104) : Bool :=
 (bif (((!s16) || (!(s17 (s18 a0)))) || (!(s19 (s20 a1) 6))) || (!(s21 (s22 a2) 6)) then s16 else ((decide ((s23 a0) = (s24 (s18 a0)))) && (decide ((s25 a1) = (s26 (s20 a1))))) && (decide ((s27 a2) = (s28 (s22 a2)))))
theorem ql8 {s : ByteArray} {i : Nat} (h : (s.get! i).toNat < 128) : Utf8.decode s i = ((s.get! i).toNat, 1) := by
 unfold Utf8.decode
 simp [h]
theorem ql9 {s : ByteArray} {i : Nat} (h : 128 ≤ (s.get! i).toNat) : 128 ≤ (Utf8.decode s i).1 := by
 unfold Utf8.decode;simp only [Nat.add_zero];rw [if_neg (by omega)]
 repeat' split
 all_goals first | assumption | (simp [Utf8.runeError]; done) | (rename_i h2; simp only [Bool.and_eq_true, decide_eq_true_eq] at h2; have h3 := h2.1; dsimp only; omega)
theorem qki {s : ByteArray} {i : Nat} (h : i < s.data.toList.length) : s.get! i = s.data.toList[i] := by
 have h' : i < s.data.size := by simpa using h
 show s.data[i]! = _;rw [getElem!_pos s.data i h']
 simp
theorem qma (s : ByteArray) : ∀ n pos, s.size ≤ pos + n → s147_l1 (runesF s n pos) = s91_l1 (s.data.toList.drop pos) pos := by
 intro n
 induction n with
 | zero =>
  intro pos h;rw [List.drop_eq_nil_of_le (by simpa using h)]; rfl
 | succ n ih =>
  intro pos h;unfold runesF
  split
  ·rename_i hp
   have hl : pos < s.data.toList.length := by simpa using hp
   rw [List.drop_eq_getElem_cons hl, s147_l1, s91_l1, ← qki hl]
   rcases Nat.lt_or_ge (s.get! pos).toNat 128 with hb | hb
   ·rw [ql8 hb, ih (pos + 1) (by omega)];have e1 : (decide (((pos : Nat) : Int) = 0)) = decide ((pos : Int) = 0) := rfl;dsimp only;rw [Bool.or_comm ((decide ((65 : Int) ≤ _)) && _)]
   ·have hb2 := ql9 hb
    have c1 : (!(((decide ((65 : Int) ≤ ((Utf8.decode s pos).1 : Int))) && (decide (((Utf8.decode s pos).1 : Int) ≤ 90))) || ((decide ((97 : Int) ≤ ((Utf8.decode s pos).1 : Int))) && (decide (((Utf8.decode s pos).1 : Int) ≤ 122))))) = true := by
     simp; omega
    have c2 : (!(((decide ((97 : Int) ≤ ((s.get! pos).toNat : Int))) && (decide (((s.get! pos).toNat : Int) ≤ 122))) || ((decide ((65 : Int) ≤ ((s.get! pos).toNat : Int))) && (decide (((s.get! pos).toNat : Int) ≤ 90))))) = true := by
     simp; omega
    dsimp only;rw [c1, c2]
    have d1 : (decide (((Utf8.decode s pos).1 : Int) ≠ 95) && (decide (((Utf8.decode s pos).1 : Int) < 48) || decide (57 < ((Utf8.decode s pos).1 : Int)))) = true := by simp; omega
    have d2 : (decide (((s.get! pos).toNat : Int) ≠ 95) && (decide (((s.get! pos).toNat : Int) < 48) || decide (57 < ((s.get! pos).toNat : Int)))) = true := by simp; omega
    rw [d1, d2]; simp
  ·rename_i hp
   rw [List.drop_eq_nil_of_le (by simpa using hp)]; rfl
theorem qri (s : ByteArray) : s147 s = s91 s := by
 unfold s147 s91 runes;rw [qma s _ 0 (by omega)]; rfl
theorem qel (l : List Int) : s84 l = s89 l := by
 unfold s84 s89;generalize 0 = k
 induction l generalizing k with
 | nil => rfl
 | cons x l ih => rw [s84_l1, s89_l1, ih]
theorem wn : s89 [] = 0 := rfl
theorem qv6 (l : List Int) (k k' : Nat) : s89_l1 l k = s89_l1 l k' := by
 induction l generalizing k k' with
 | nil => rfl
 | cons x l ih => rw [s89_l1, s89_l1, ih (k + 1) (k' + 1)]
theorem qbu (x : Int) (l : List Int) : s89 (x :: l) = bif decide (x ≠ 0) then x else s89 l := by
 unfold s89; rw [s89_l1, qv6 l 1 0]
theorem qrj (a b c : Int) : s85 a b c = s90 a b c := rfl
theorem qhu (s : ByteArray) : s87 s = s95 s := by unfold s87 s95 s86; rw [qri]
theorem qi5 (s : ByteArray) : s101 s = s97 s := rfl
theorem qt6 (a : ByteArray) (l : List ByteArray) (k : Nat) : decide (0 ≤ s148_l1 a l k) = s92_l1 a l k := by
 induction l generalizing k with
 | nil => rfl
 | cons y l ih =>
  rw [s148_l1, s92_l1]
  by_cases h : a = y
  ·subst h; simp
  ·have h' : ¬ y = a := fun e => h e.symm;simp only [h, h', decide_false, cond_false]; exact ih _
theorem qhv (l : List ByteArray) (a : ByteArray) : s88 l a = s92 l a := qt6 a l 0
theorem qos (a : S23) (l : List ByteArray) (k : Nat) : s23_l1 a l k = s24_l1 a l k := by
 induction l generalizing k with
 | nil => rw [s23_l1, s24_l1, qel]; rfl
 | cons y l ih =>
  rw [s23_l1, s24_l1, ih, qel, qhv, qhu];unfold s95 s86;simp only [qbu, wn]
  cases s91 y <;> cases s92 (List.take (Int.toNat ((k : Nat) : Int)) a.Causes) y <;> simp
theorem qrk (a : S23) : s23 a = s24 (s18 a) := by
 unfold s23 s24 s18;simp only [qel, qos, qrj, qbu, wn];unfold s86;generalize s90 a.Before 0 720 = x1;generalize s90 a.After 0 720 = x2;generalize s90 a.Notice 0 365 = x3;generalize s90 a.Share 1 100 = x4;generalize decide ((16 : Int) < (List.length a.Causes : Int)) = b;generalize s24_l1 a a.Causes 0 = y
 by_cases h1 : x1 = 0
 ·subst h1
  by_cases h2 : x2 = 0
  ·subst h2
   by_cases h3 : x3 = 0
   ·subst h3
    by_cases h4 : x4 = 0
    ·subst h4; cases b <;> simp
    ·simp [h4]
   ·simp [h3]
  ·simp [h2]
 ·simp [h1]
theorem qv7 (f : S104 → Int) (l : List S104) (k : Nat) (x : List Int) : s98_l1 f l k x = x ++ l.map f := by
 induction l generalizing k x with
 | nil => simp [s98_l1]
 | cons y l ih => rw [s98_l1, ih]; simp
def o (x y : Int) : Int := bif decide (x ≠ 0) then x else y
theorem o0l (y : Int) : o 0 y = y := rfl
theorem o0r (x : Int) : o x 0 = x := by unfold o; by_cases h : x = 0 <;> simp [h]
theorem o_as (x y z : Int) : o (o x y) z = o x (o y z) := by
 unfold o; by_cases h : x = 0
 ·subst h; simp
 ·simp [h]
theorem qmb (x : Int) (l : List Int) : s89 (x :: l) = o x (s89 l) := qbu x l
theorem j2_o (x1 : Int) (x2 : ByteArray) (x3 : Int) (x4 : ByteArray) (x5 : Int) (x6 : Int) (x7 : ByteArray) (x8 : Int) : s100_j2 x1 x2 x3 x4 x5 x6 x7 x8 = o x1 (s86 ((!decide (x2 = (⟨#[]⟩ : ByteArray))) || decide (x3 ≠ 0) || (!decide (x4 = (⟨#[]⟩ : ByteArray))) || decide (x5 ≠ 0) || decide (x6 ≠ 0) || (!decide (x7 = (⟨#[]⟩ : ByteArray))) || decide (x8 ≠ 0)) 1) := by
 have e : (ByteArray.empty) = (⟨#[]⟩ : ByteArray) := rfl;unfold s100_j2 s100_j1 o s86;rw [e]
 by_cases h : x1 = 0
 ·subst h
  by_cases h2 : x2 = (⟨#[]⟩ : ByteArray) <;> by_cases h3 : x3 = 0 <;> by_cases h4 : x4 = (⟨#[]⟩ : ByteArray) <;> by_cases h5 : x5 = 0 <;> by_cases h6 : x6 = 0 <;> by_cases h7 : x7 = (⟨#[]⟩ : ByteArray) <;> by_cases h8 : x8 = 0 <;> simp [h2, h3, h4, h5, h6, h7, h8, eqAnd]
 ·simp [h]
theorem j5_o (a : S104) (x11 : Int) (x12 : ByteArray) : s100_j5 a x11 x12 = s100_j4 a x12 (o x11 (o (s109 a.fFrom) (o (s109 a.fTo) (s86 (decide (a.fTo < a.fFrom)) 11)))) := by
 unfold s100_j5;simp only [qmb, wn, o0r];rw [show o x11 (o (s109 a.fFrom) (o (s109 a.fTo) (s86 (decide (a.fTo < a.fFrom)) 11))) = o (o x11 (o (s109 a.fFrom) (s109 a.fTo))) (s86 (decide (a.fTo < a.fFrom)) 11) by simp only [o_as]];generalize o x11 (o (s109 a.fFrom) (s109 a.fTo)) = x;unfold o s86
 by_cases h : x = 0 <;> by_cases h2 : a.fTo < a.fFrom <;> simp [h, h2]
theorem qot (x : Int) : s150 false x = 0 := rfl
theorem qou (x : Int) : s150 true x = x := rfl
theorem qrl (x : S104) : s99 x = s100 x := by
 unfold s99 s100;simp only [qel, qmb, wn, o0r, qhv, qhu, qi5, s149, show ∀ y, s151 y = s109 y from fun _ => rfl, show ∀ y, s85 y 0 143999999 = s96 y from fun _ => rfl]
 by_cases h1 : x.Kind = ⟨#[102, 108, 121]⟩
 ·rw [h1]
  simp (decide := true) only [s92, s92_l1, j2_o, qot, qou, o0l, o_as, decide_true, decide_false, Bool.not_true, Bool.not_false, cond_true, cond_false, Bool.false_and, Bool.true_and, Bool.false_or, Bool.or_false, Bool.or_assoc]
 ·by_cases h2 : x.Kind = ⟨#[98, 97, 99, 107]⟩
  ·rw [h2]
   simp (decide := true) only [s92, s92_l1, s100_j6, j5_o, s100_j4, s100_j3, j2_o, qmb, wn, o0r, qot, qou, o0l, o_as, decide_true, decide_false, Bool.not_true, Bool.not_false, cond_true, cond_false, Bool.false_and, Bool.true_and, Bool.false_or, Bool.or_false, Bool.or_assoc, h2]
  ·by_cases h3 : x.Kind = ⟨#[99, 97, 110, 99, 101, 108]⟩
   ·rw [h3]
    simp (decide := true) only [s92, s92_l1, s100_j6, j5_o, s100_j4, s100_j3, j2_o, qmb, wn, o0r, qot, qou, o0l, o_as, decide_true, decide_false, Bool.not_true, Bool.not_false, cond_true, cond_false, Bool.false_and, Bool.true_and, Bool.false_or, Bool.or_false, Bool.or_assoc, h3]
   ·by_cases h4 : x.Kind = ⟨#[119, 101, 97, 116, 104, 101, 114]⟩
    ·rw [h4]
     simp (decide := true) only [s92, s92_l1, s100_j6, j5_o, s100_j4, s100_j3, j2_o, qmb, wn, o0r, qot, qou, o0l, o_as, decide_true, decide_false, Bool.not_true, Bool.not_false, cond_true, cond_false, Bool.false_and, Bool.true_and, Bool.false_or, Bool.or_false, Bool.or_assoc, h4]
    ·have e : s92 [⟨#[102, 108, 121]⟩, ⟨#[98, 97, 99, 107]⟩, ⟨#[99, 97, 110, 99, 101, 108]⟩, ⟨#[119, 101, 97, 116, 104, 101, 114]⟩] x.Kind = false := by
      simp [s92, s92_l1, fun (a b : ByteArray) => (eq_comm : a = b ↔ b = a), h1, h2, h3, h4]
     rw [e]; simp [h1, h2, h3, h4, s100_j6]
inductive Sh where
 | int | str | bool
 | sl (l : List Sh)
inductive Is : List Sh → List G → Prop
 | nil : Is [] []
 | int {l : List Sh} {gs : List G} (n : Int) (h : Is l gs) : Is (.int :: l) (G.int n :: gs)
 | str {l : List Sh} {gs : List G} (s : ByteArray) (h : Is l gs) : Is (.str :: l) (G.str s :: gs)
 | bool {l : List Sh} {gs : List G} (b : Bool) (h : Is l gs) : Is (.bool :: l) (G.bool b :: gs)
 | sl {l : List Sh} {gs : List G} {k : Nat} {m : List Sh} {xs : List (List G)} (hk : k = m.length) (hx : ∀ c ∈ xs, Is m c) (h : Is l gs) : Is (.sl m :: l) (G.sl k xs :: gs)
theorem Is.length {l : List Sh} {gs : List G} (h : Is l gs) : gs.length = l.length := by
 induction h <;> simp_all
theorem Is.append {l m : List Sh} {gs hs : List G} (h : Is l gs) (k : Is m hs) : Is (l ++ m) (gs ++ hs) := by
 induction h with
 | nil => exact k
 | int n _ ih => exact .int n ih
 | str s _ ih => exact .str s ih
 | bool b _ ih => exact .bool b ih
 | sl hk hx _ _ ih => exact .sl hk hx ih
def fieldsSh (P : Program) (rec : TypeId → Option (List Sh)) : List Field → Nat → Nat → Option (List Sh)
 | [], o, tot => if o = tot then some [] else none
 | f :: fs, o, tot => if f.offset = o then (match rec f.type with
  | some l => if l.length = P.cellsOf f.type then (match fieldsSh P rec fs (o + l.length) tot with | some r => some (l ++ r) | none => none) else none
  | none => none) else none
def shOf (P : Program) : Nat → TypeId → Option (List Sh)
 | 0, _ => none
 | n + 1, t => match P.underlying t with
  | some (.int .i64) => some [.int]
  | some .string => some [.str]
  | some .bool => some [.bool]
  | some (.slice e) => match shOf P n e with
   | some l => if l.length = P.cellsOf e then some [.sl l] else none
   | none => none
  | some (.struct fs) => fieldsSh P (shOf P n) fs.toList 0 (P.cellsOf t)
  | _ => none
section
variable {H : Type} {enc : TypeId × Value → H} {P : Program} {w : World} {base : Nat} {spare : Nat → Bool} {held : Bool}
theorem qi6 {M : Nat → Prop} : ∀ {gs : List G} {vs : List Value} {gs' : List G} {vs' : List Value}, Fits w M gs vs → Fits w M gs' vs' → Fits w M (gs ++ gs') (vs ++ vs')
 | [], [], _, _, _, h => h
 | _ :: _, _ :: _, _, _, h, k => ⟨h.1, qi6 h.2 k⟩
 | [], _ :: _, _, _, h, _ => h.elim
 | _ :: _, [], _, _, h, _ => h.elim
theorem qi7 {M : Nat → Prop} : ∀ {gs : List G} {vs : List Value}, Fits w M gs vs → vs.length = gs.length
 | [], [], _ => rfl
 | _ :: _, _ :: _, h => by simp [qi7 h.2]
 | [], _ :: _, h => h.elim
 | _ :: _, [], h => h.elim
theorem qf8 {M : Nat → Prop} {b : Nat} : ∀ {gs gs' : List G} {o : Nat}, Cells w M b o gs → Cells w M b (o + gs.length) gs' → Cells w M b o (gs ++ gs')
 | [], _, _, _, k => k
 | g :: gs, gs', o, h, k => ⟨h.1, qf8 h.2 (by rw [show o + 1 + gs.length = o + (g :: gs).length by simp; omega]; exact k)⟩
theorem qav {M : Nat → Prop} {b : Nat} : ∀ {gs : List G} {vs : List Value} {o : Nat}, Fits w M gs vs → (∀ i, i < vs.length → w.cell? ⟨b, o + i, none⟩ = vs[i]?) → Cells w M b o gs
 | [], [], _, _, _ => trivial
 | g :: gs, v :: vs, o, h, k => ⟨⟨v, by simpa using k 0 (by simp), h.1.1, h.1.2⟩, qav h.2 fun i hi => by
   have := k (i + 1) (by simpa using hi)
   rw [show o + 1 + i = o + (i + 1) by omega, this]; rfl⟩
 | [], _ :: _, _, h, _ => h.elim
 | _ :: _, [], _, h, _ => h.elim
theorem qem {k : Nat} : ∀ {xs : List (List G)}, (∀ c ∈ xs, c.length = k) → xs.flatten.length = xs.length * k
 | [], _ => by simp
 | c :: xs, h => by
  rw [List.flatten_cons, List.length_append, h c (List.mem_cons_self ..), qem fun c hc => h c (List.mem_cons_of_mem _ hc), List.length_cons, Nat.succ_mul, Nat.add_comm]
def Reads (H : Type) (enc : TypeId × Value → H) (P : Program) (w : World) (base : Nat) (spare : Nat → Bool) (held : Bool) (t : TypeId) (l : List Sh) : Prop :=
 ∀ fuel cs x, DataW.trod enc P w base spare held fuel t cs = some x → ∃ gs, Is l gs ∧ Fits w (fun _ => False) gs cs
theorem qkj {t e : TypeId} {l : List Sh} (ht : P.underlying t = some (.slice e)) (hl : l.length = P.cellsOf e) (ih : Reads H enc P w base spare held e l) {fuel : Nat} {cs : List Value} {x : DataW H × List MemPlace}
  (h : DataW.trod enc P w base spare held fuel t cs = some x) :
  ∃ xs : List (List G), (∀ c ∈ xs, Is l c) ∧ Fits w (fun _ => False) [G.sl l.length xs] cs ∧ (xs = [] ∨ ∃ elems rest, x.1 = .slice elems rest ∧ elems.length = xs.length) := by
 rcases DataW.trod_slice ht h with ⟨rfl, rfl⟩ | ⟨a, len, cap, elems, rest, n, _, rfl, rfl, _, hlc, hcm, hlen, hel, _, _⟩
 ·exact ⟨[], by simp, ⟨⟨⟨none, 0, rfl, Nat.le_refl _, by simp, by simp, .inl ⟨rfl, fun _ => rfl⟩⟩, rfl⟩, trivial⟩, .inl rfl⟩
 ·have hsp : 0 < len → l.length ≠ 0 → a.spot = none := by
   intro hp hz;have h5 := hel 0 hp;rw [List.getElem?_eq_getElem (by omega), Option.bind_eq_some_iff] at h5;obtain ⟨csm, h6, _⟩ := h5;obtain ⟨_, g1, g2⟩ := World.cells?_some h6;have c0 := g2 0 (by omega);rw [List.getElem?_eq_getElem (by omega)] at c0;unfold World.cell? at c0
   split at c0
   ·split at c0
    ·cases c0
    ·rename_i hs
     simpa [Addr.add] using hs
   ·cases c0
  have key : ∀ m, m ≤ len → ∃ xs : List (List G), xs.length = m ∧ (∀ c ∈ xs, Is l c) ∧ Cells w (fun _ => False) a.block a.off xs.flatten := by
   intro m
   induction m with
   | zero => intro _; exact ⟨[], rfl, by simp, trivial⟩
   | succ m im =>
    intro hm;obtain ⟨xs, h1, h2, h4⟩ := im (by omega);have h5 := hel m (by omega);rw [List.getElem?_eq_getElem (by omega), Option.bind_eq_some_iff] at h5;obtain ⟨csm, h6, h7⟩ := h5;obtain ⟨gs, h8, h9⟩ := ih _ _ _ h7;obtain ⟨_, g1, g2⟩ := World.cells?_some h6;have gl := qi7 h9;have hx := h8.length;have hk : ∀ c ∈ xs, c.length = l.length := fun c hc => (h2 c hc).length;have fl := qem hk;refine ⟨xs ++ [gs], by simp [h1], ?_, ?_⟩
    ·intro c hc
     rcases List.mem_append.1 hc with hc | hc
     ·exact h2 c hc
     ·rw [List.mem_singleton.1 hc]; exact h8
    ·rw [List.flatten_append];refine qf8 h4 ?_;rw [List.flatten_cons, List.flatten_nil, List.append_nil]
     by_cases hz : l.length = 0
     ·rw [List.eq_nil_of_length_eq_zero (hx.trans hz)]; trivial
     ·have hs := hsp (by omega) hz;refine qav h9 fun i hi => ?_;have ci := g2 i (by omega);rw [← ci, fl, h1, hl]
      congr 1
      obtain ⟨ab, ao, as_⟩ := a;subst hs;simp only [Addr.add]
      split <;> split <;> simp_all
  obtain ⟨xs, h1, h2, h4⟩ := key len (Nat.le_refl _);refine ⟨xs, h2, ⟨⟨⟨some a, cap, by rw [h1], by omega, hcm, fun c hc => (h2 c hc).length, ?_⟩, rfl⟩, trivial⟩, .inr ⟨_, _, rfl, by simp [hlen, h1]⟩⟩
  by_cases hz : len = 0 ∨ l.length = 0
  ·refine .inl ⟨List.eq_nil_of_length_eq_zero ?_, fun e => by cases e⟩;rw [qem fun c hc => (h2 c hc).length, h1]
   rcases hz with hz | hz <;> simp [hz]
  ·refine .inr ⟨a.block, a.off, ?_, fun h => h, h4⟩;have := hsp (by omega) (by omega)
   cases a; simp_all
theorem qch {n : Nat} (ih : ∀ t l, shOf P n t = some l → Reads H enc P w base spare held t l) : ∀ (fs : List Field) (o tot : Nat) (l : List Sh), fieldsSh P (shOf P n) fs o tot = some l →
  ∀ (fuel : Nat) (cs : List Value), cs.length = tot → (∀ f ∈ fs, ∃ y, DataW.trod enc P w base spare held fuel f.type ((cs.drop f.offset).take (P.cellsOf f.type)) = some y) → ∃ gs, Is l gs ∧ Fits w (fun _ => False) gs (cs.drop o)
 | [], o, tot, l, h, fuel, cs, hc, _ => by
  unfold fieldsSh at h
  split at h
  ·cases h; rename_i e; exact ⟨[], .nil, by rw [List.drop_eq_nil_of_le (by omega)]; trivial⟩
  ·cases h
 | f :: fs, o, tot, l, h, fuel, cs, hc, hf => by
  unfold fieldsSh at h
  split at h
  ·rename_i ho
   split at h
   ·rename_i l1 hl1
    split at h
    ·rename_i hlen
     split at h
     ·rename_i r hr
      cases h
      obtain ⟨y, hy⟩ := hf f (List.mem_cons_self ..);obtain ⟨gs1, k1, k2⟩ := ih _ _ hl1 _ _ _ hy;obtain ⟨gs2, k3, k4⟩ := qch ih fs _ _ _ hr fuel cs hc fun g hg => hf g (List.mem_cons_of_mem _ hg);refine ⟨gs1 ++ gs2, k1.append k3, ?_⟩;rw [ho, ← hlen] at k2
      have : cs.drop o = (cs.drop o).take l1.length ++ cs.drop (o + l1.length) := by
       rw [← List.drop_drop, List.take_append_drop]
      rw [this];exact qi6 k2 k4
     ·cases h
    ·cases h
   ·cases h
  ·cases h
theorem qen : ∀ (n : Nat) (t : TypeId) (l : List Sh), shOf P n t = some l → Reads H enc P w base spare held t l
 | 0, _, _, h => by cases h
 | n + 1, t, l, h => by
  intro fuel cs x hx;unfold shOf at h
  split at h
  ·rename_i hu; cases h
   obtain ⟨k, rfl, _⟩ := DataW.trod_int hu hx;exact ⟨[G.int k], .int k .nil, ⟨rfl, rfl⟩, trivial⟩
  ·rename_i hu; cases h
   obtain ⟨s, rfl, _⟩ := DataW.trod_string hu hx;exact ⟨[G.str s], .str s .nil, ⟨rfl, rfl⟩, trivial⟩
  ·rename_i hu; cases h
   obtain ⟨b, rfl, _⟩ := DataW.trod_bool hu hx;exact ⟨[G.bool b], .bool b .nil, ⟨rfl, rfl⟩, trivial⟩
  ·rename_i e hu
   split at h
   ·rename_i le hle
    split at h
    ·rename_i hlen; cases h
     obtain ⟨xs, k1, k2, _⟩ := qkj hu hlen (qen n e le hle) hx;exact ⟨_, .sl rfl k1 .nil, k2⟩
    ·cases h
   ·cases h
  ·rename_i fs hu
   obtain ⟨xs, m, _, _, hc, hlen, hf⟩ := DataW.trod_struct hu hx
   have := qch (qen n) fs.toList 0 _ l h m cs hc fun f hf' => by
    obtain ⟨i, hi⟩ := List.getElem?_of_mem hf'
    have hi' : fs[i]? = some f := by rw [← Array.getElem?_toList]; exact hi
    have hlt : i < xs.length := by rw [hlen]; exact (Array.getElem?_eq_some_iff.1 hi').1
    exact ⟨_, (hf i f hi').trans (List.getElem?_eq_getElem hlt)⟩
   simpa using this
  ·cases h
theorem qdt {r : Reach} {b0 : Nat} {t : TypeId} {fs : Array Field} {v : Value} {d : DataW H} {p : List MemPlace} {n : Nat} {l : List Sh} (hs : P.underlying t = some (.struct fs)) (hl : shOf P n t = some l) (hv : Value.okWide P w r b0 t v) (h : DataW.Trod enc P w base spare held t v d p) :
  ∃ gs, Is l gs ∧ (G.agg gs).p w (fun _ => False) v := by
 unfold Value.okWide at hv;rw [hs] at hv;obtain ⟨cs, rfl, _, _⟩ := hv;obtain ⟨fuel, hf⟩ := h;obtain ⟨gs, k1, k2⟩ := qen n t l hl _ _ _ hf;exact ⟨gs, k1, cs.toList, rfl, k2⟩
end
end Go.Sim
namespace Go.Proofs.YtdfgeoefbbkcnaaGreatDoor
open Go.ChangeShapes Go.WideShapes Go.ChangeAt Go.WideMaps Go.WideElems Go.RowKit
open Go.Sim (EG glT GlOk Cells G Grow)
abbrev laid2 : List (String × DataW Unit) := [("turnround/calendar.lengths", Rows.laid_turnround_calendar_lengths), ("turnround/use.statuses", Rows.laid_turnround_use_statuses)]
theorem own : ownKnob Tryz.prog.godebug = none := by kernel_rfl
theorem qrm : laidOutB Tryz.prog = true := by kernel_rfl
theorem gLen : Tryz.prog.globalNamed "turnround/calendar.lengths" = some 1 := by kernel_rfl
theorem gSta : Tryz.prog.globalNamed "turnround/use.statuses" = some 0 := by kernel_rfl
theorem tLen : (Tryz.prog.globals[1]?).map (·.type) = some 296 := by kernel_rfl
theorem tSta : (Tryz.prog.globals[0]?).map (·.type) = some 199 := by kernel_rfl
theorem uLen : Tryz.prog.underlying 296 = some (.array 12 3) := by kernel_rfl
theorem uSta : Tryz.prog.underlying 199 = some (.array 4 9) := by kernel_rfl
theorem qf9 {H : Type} {enc : TypeId × Value → H} {P : Program} {w : World} {base : Nat} {spare : Nat → Bool} {held : Bool} {α : Type} {f : α → DataW H} {g : α → Value} {t e : TypeId} {N : Nat} (ht : P.underlying t = some (.array N e)) (hc : P.cellsOf e = 1) (hN : P.cellsOf t = N)
  (hcell : ∀ fuel cs y a, DataW.trod enc P w base spare held fuel e cs = some y → y.1 = f a → cs = [g a]) {fuel : Nat} {cs : List Value} {l : List α} {ps : List MemPlace} (h : DataW.trod enc P w base spare held fuel t cs = some (.agg (l.map f), ps)) : cs = l.map g := by
 obtain ⟨xs, m, _, hx, hl, hn, hel⟩ := DataW.trod_array ht h;simp only [Prod.mk.injEq, DataW.agg.injEq] at hx
 have hlen : l.length = xs.length := by simpa using congrArg List.length hx.1
 apply List.ext_getElem
 ·rw [List.length_map, hl, hN]; omega
 ·intro i h1 h2
  have h3 : i < xs.length := by rw [List.length_map] at h2; omega
  have h4 := hel i (by omega);rw [hc, Nat.mul_one, List.getElem?_eq_getElem h3] at h4
  have h5 : (xs[i]).1 = f (l[i]'(by omega)) := by
   have := congrArg (fun q => q[i]?) hx.1;simp only [List.getElem?_map] at this;rw [List.getElem?_eq_getElem h3, List.getElem?_eq_getElem (by omega : i < l.length)] at this
   simpa using this.symm
  have h6 := hcell _ _ _ _ h4 h5;rw [List.getElem_map]
  have h7 : (cs.drop i).take 1 = [cs[i]] := by rw [List.drop_eq_getElem_cons h1]; rfl
  rw [h7] at h6;exact (List.cons.inj h6).1
theorem xw {W : World} {g : Nat} : ∀ {vs : List Value} {o : Nat}, (∀ v ∈ vs, v.oneCell' = true) → (∀ i v, vs[i]? = some v → W.cell? ⟨g, o + i, none⟩ = some v) → Cells W (fun _ => False) g o (vs.map G.lit)
 | [], _, _, _ => trivial
 | v :: vs, o, h1, h2 => ⟨⟨v, by simpa using h2 0 v rfl, rfl, h1 v (List.mem_cons_self ..)⟩, xw (fun u hu => h1 u (List.mem_cons_of_mem _ hu)) fun i u hu => by
   have := h2 (i + 1) u (by simpa using hu)
   rw [show o + 1 + i = o + (i + 1) by omega]; exact this⟩
theorem qga {W : World} (h : laidMetH Tryz.prog laid2 W) : GlOk (EG glT) W (fun _ => False) := by
 rw [MakeChecks.laidMetH_plain _ _ _ (by kernel_rfl)] at h;obtain ⟨ps, ⟨g0, t0, cs0, f0, p0, q0, hg0, ht0, hv0, hd0, ⟨g1, t1, cs1, f1, p1, q1, hg1, ht1, hv1, hd1, _, _⟩, _⟩, _, _⟩ := h;obtain rfl := Option.some.inj (gLen.symm.trans hg0);obtain rfl := Option.some.inj (gSta.symm.trans hg1);obtain rfl := Option.some.inj (tLen.symm.trans ht0);obtain rfl := Option.some.inj (tSta.symm.trans ht1)
 have e0 : cs0.toList = Sim.lengthCells := by
  refine qf9 (α := Int) (f := fun n => .lit (.int .i64 n)) (g := fun n => .int .i64 n) (l := [31, 28, 31, 30, 31, 30, 31, 31, 30, 31, 30, 31]) uLen (by kernel_rfl) (by kernel_rfl) ?_ hd0;intro fuel cs y a hy ha;obtain ⟨n, rfl, rfl, _⟩ := DataW.trod_int Tryz.underlying3 hy
  simp at ha; rw [ha]
 have e1 : cs1.toList = Sim.statusCells := by
  refine qf9 (α := List UInt8) (f := fun n => .lit (.string n)) (g := fun n => Sim.sv n) (l := [[114, 101, 116, 117, 114, 110, 101, 100], [102, 108, 111, 119, 110], [101, 120, 99, 117, 115, 101, 100], [109, 105, 115, 115, 101, 100]]) uSta (by kernel_rfl) (by kernel_rfl) ?_ hd1;intro fuel cs y a hy ha;obtain ⟨s, rfl, rfl, _⟩ := DataW.trod_string Tryz.underlying9 hy
  simp at ha
  unfold Sim.sv;rw [← ha]
 have c0 := fun i => World.var?_cell hg0 hv0 i;have c1 := fun i => World.var?_cell hg1 hv1 i;intro g vs hgv
 have hgv : (g, vs) = (0, Sim.statusCells) ∨ (g, vs) = (1, Sim.lengthCells) := by simpa [EG, glT] using hgv
 rcases hgv with hgv | hgv
 ·cases hgv
  refine ⟨⟨fun h => h, ?_⟩, xw (by unfold Sim.statusCells Sim.sv; intro v hv; simp at hv; rcases hv with rfl | rfl | rfl | rfl <;> rfl) fun i v hv => ?_⟩
  ·have := c1 0;rw [← Array.getElem?_toList, e1] at this;exact Go.block_lt_of_cell (a := ⟨0, 0, none⟩) this
  ·rw [Nat.zero_add, c1 i, ← Array.getElem?_toList, e1]; exact hv
 ·cases hgv
  refine ⟨⟨fun h => h, ?_⟩, xw (by unfold Sim.lengthCells; intro v hv; obtain ⟨n, _, rfl⟩ := List.mem_map.1 hv; rfl) fun i v hv => ?_⟩
  ·have := c0 0;rw [← Array.getElem?_toList, e0] at this;exact Go.block_lt_of_cell (a := ⟨1, 0, none⟩) this
  ·rw [Nat.zero_add, c0 i, ← Array.getElem?_toList, e0]; exact hv
end Go.Proofs.YtdfgeoefbbkcnaaGreatDoor
namespace Go.Proofs.YtdfgeoefbbkcnaaGreatDoor
open Go.ChangeShapes Go.WideShapes Go.ChangeAt Go.WideMaps Go.WideElems Go.RowKit
open Go.Sim (EG glT GlOk Cells G Grow)
set_option maxRecDepth 100000 in
theorem qov (os : Os) (args : Array Value) : laidMetH Tryz.prog laid2 ((World.doorLaid Tryz.prog 400 os).forCall (fun _ _ => 0) ⟨#[], args, []⟩).memory := by
 rw [MakeChecks.laidMetH_plain _ _ _ (by kernel_rfl)];refine laidMet_of_run' 8 ?_ ?_
 ·kernel_rfl
 ·kernel_rfl
theorem qbl {H : Type} {enc : TypeId × Value → H} {P : Program} (hl : laidOutB P = true) {W W' : World} (hb : Below W.heap.size W W') : ∀ {ts : List TypeId} {vs : List Value} {ds : List (DataW H)} {ps : List MemPlace}, (∀ t ∈ ts, P.readableRec t = true ∧ t < P.types.size) → (∀ x ∈ ps, x.block < W.heap.size) →
  DataW.TrodAll enc P W 0 (fun _ => true) true ts vs ds ps → DataW.TrodAll enc P W' 0 (fun b => decide (b < W.heap.size)) true ts vs ds ps
 | [], [], [], _, _, _, h => h
 | t :: ts, v :: vs, d :: ds, ps, ht, hp, ⟨p, q, h1, h2, h3⟩ => by
  subst h3;have := ht t (List.mem_cons_self ..);exact ⟨p, q, Below.trod hl this.1 this.2 h1 hb fun x hx => hp x (List.mem_append_left _ hx), qbl hl hb (fun t h => ht t (List.mem_cons_of_mem _ h)) (fun x hx => hp x (List.mem_append_right _ hx)) h2, rfl⟩
 | [], _ :: _, _, _, _, _, h => h.elim
 | [], [], _ :: _, _, _, _, h => h.elim
 | _ :: _, [], _, _, _, _, h => h.elim
 | _ :: _, _ :: _, [], _, _, _, h => h.elim
theorem qow {H : Type} {enc : TypeId × Value → H} {P : Program} (hl : laidOutB P = true) {f : Func} {s : ChangeSpec} {W W' : World} {args : Array Value} {ds gs : List (DataW H)} {before : List MemPlace} (ht4 : P.underlying 4 = some .bool)
  (hW : DataW.Whole enc P f.params.toList s.vars false W args.toList ds gs before) (hvars : s.vars = []) (hres : f.resultTypes = #[4]) (hts : ∀ t ∈ f.params.toList, P.readableRec t = true ∧ t < P.types.size)
  (hs : s.fn H (ds ++ gs) = { results := [.lit (.bool true)], args := ds }) (hg : Below W.heap.size W W') : s.post enc P f false true false false W args (.bool true) W' := by
 have hW' := hW;obtain ⟨p, q, hA, hV, hb, _, _⟩ := hW;rw [hvars] at hV;obtain ⟨rfl, rfl⟩ := trodVars_none hV;rw [List.append_nil] at hb;subst hb;have hlt : ∀ x ∈ before, x.block < W.heap.size := fun x hx => hW'.lt x hx;refine ⟨_, _, _, [], before, [], hW', ?_, ?_, ?_, hg.frame _, fun h => by cases h⟩
 ·rw [hs, hres];exact trodAll_mk1 (shut_bool ht4 _)
 ·rw [hs];exact qbl hl hg hts hlt hA
 ·rw [hs, hvars]; rfl
end Go.Proofs.YtdfgeoefbbkcnaaGreatDoor
namespace Go.Sim
section
variable {α : Type}
def insB (lt : α → α → Bool) (x : α) : List α → List α
 | [] => [x]
 | y :: r => bif lt x y then y :: insB lt x r else x :: y :: r
def insS (lt : α → α → Bool) : List α → List α → List α
 | P, [] => P.reverse
 | P, x :: l => insS lt (insB lt x P) l
def isort (lt : α → α → Bool) (l : List α) : List α := insS lt [] l
theorem v8 (lt : α → α → Bool) (x : α) : ∀ P, (insB lt x P).Perm (x :: P)
 | [] => List.Perm.refl _
 | y :: r => by
  rw [insB]
  cases lt x y with
  | true => exact ((v8 lt x r).cons y).trans (List.Perm.swap x y r)
  | false => exact List.Perm.refl _
theorem qi8 (lt : α → α → Bool) (x : α) (P : List α) : (insB lt x P).length = P.length + 1 := (v8 lt x P).length_eq
theorem qgb (lt : α → α → Bool) : ∀ (l P : List α), (insS lt P l).Perm (P ++ l)
 | [], P => by rw [insS, List.append_nil]; exact List.reverse_perm P
 | x :: l, P => by
  rw [insS];refine (qgb lt l _).trans ?_;refine ((v8 lt x P).append_right l).trans ?_;exact List.perm_middle.symm
theorem qkk (lt : α → α → Bool) (l : List α) : (isort lt l).Perm l := qgb lt l []
theorem qci {lt : α → α → Bool} {Rel : α → α → Prop} (tr : ∀ a b c, Rel a b → Rel b c → Rel a c) {x : α} : ∀ {P : List α}, P.Pairwise (fun a b => Rel b a) → (∀ y ∈ P, (lt x y = true → Rel x y) ∧ (lt x y = false → Rel y x)) → (insB lt x P).Pairwise (fun a b => Rel b a)
 | [], _, _ => by rw [insB]; exact List.pairwise_singleton _ _
 | y :: r, hP, hx => by
  rw [insB];have h1 := List.pairwise_cons.1 hP
  cases hl : lt x y with
  | true =>
   refine List.pairwise_cons.2 ⟨fun z hz => ?_, qci tr h1.2 fun y hy => hx y (List.mem_cons_of_mem _ hy)⟩
   rcases List.mem_cons.1 ((v8 lt x r).mem_iff.1 hz) with rfl | hz
   ·exact (hx y List.mem_cons_self).1 hl
   ·exact h1.1 z hz
  | false =>
   refine List.pairwise_cons.2 ⟨fun z hz => ?_, hP⟩;have h2 := (hx y List.mem_cons_self).2 hl
   rcases List.mem_cons.1 hz with rfl | hz
   ·exact h2
   ·exact tr z y x (h1.1 z hz) h2
theorem qcj {lt : α → α → Bool} {Rel : α → α → Prop} (tr : ∀ a b c, Rel a b → Rel b c → Rel a c) : ∀ {l P : List α}, P.Pairwise (fun a b => Rel b a) → (∀ y ∈ P, ∀ x ∈ l, (lt x y = true → Rel x y) ∧ (lt x y = false → Rel y x)) →
  l.Pairwise (fun y x => (lt x y = true → Rel x y) ∧ (lt x y = false → Rel y x)) → (insS lt P l).Pairwise Rel
 | [], P, hP, _, _ => by rw [insS]; exact List.pairwise_reverse.2 hP
 | x :: l, P, hP, hx, hl => by
  rw [insS];have h1 := List.pairwise_cons.1 hl;refine qcj tr (qci tr hP fun y hy => hx y hy x List.mem_cons_self) (fun y hy z hz => ?_) h1.2
  rcases List.mem_cons.1 ((v8 lt x P).mem_iff.1 hy) with rfl | hy
  ·exact h1.1 z hz
  ·exact hx y hy z (List.mem_cons_of_mem _ hz)
theorem qbm {lt : α → α → Bool} {Rel : α → α → Prop} (tr : ∀ a b c, Rel a b → Rel b c → Rel a c) {l : List α} (hl : l.Pairwise (fun y x => (lt x y = true → Rel x y) ∧ (lt x y = false → Rel y x))) : (isort lt l).Pairwise Rel :=
 qcj tr List.Pairwise.nil (fun y hy => by cases hy) hl
theorem qaw {Rel : α → α → Prop} : ∀ {a b : List α}, a.Perm b → a.Pairwise Rel → b.Pairwise Rel → (∀ x ∈ a, ∀ y ∈ a, Rel x y → Rel y x → x = y) → a = b
 | [], b, hp, _, _, _ => by rw [List.nil_perm.1 hp]
 | x :: t, [], hp, _, _, _ => by cases (List.perm_nil.1 hp)
 | x :: t, y :: s, hp, ha, hb, an => by
  have h1 := List.pairwise_cons.1 ha;have h2 := List.pairwise_cons.1 hb
  have hxy : x = y := by
   have hx : x ∈ y :: s := hp.mem_iff.1 List.mem_cons_self;have hy : y ∈ x :: t := hp.mem_iff.2 List.mem_cons_self
   rcases List.mem_cons.1 hx with e | hx
   ·exact e
   ·rcases List.mem_cons.1 hy with e | hy'
    ·exact e.symm
    ·exact an x List.mem_cons_self y hy (h1.1 y hy') (h2.1 x hx)
  subst hxy;rw [qaw ((List.perm_cons x).1 hp) h1.2 h2.2 fun a ha b hb => an a (List.mem_cons_of_mem _ ha) b (List.mem_cons_of_mem _ hb)]
theorem qeo {P B : List α} {x : α} : ixO (P ++ x :: B) (P.length : Int) = some x := by
 unfold ixO;rw [decide_eq_true (by omega)]
 simp
theorem xe {P B : List α} {x : α} {n : Int} (h : n = (P.length : Int)) : ixO (P ++ x :: B) n = some x := by rw [h]; exact qeo
theorem xg {P B : List α} {x y : α} {n : Nat} (h : n = P.length) : List.set (P ++ x :: B) n y = P ++ y :: B := by
 subst h;rw [List.set_append_right _ _ (Nat.le_refl _), Nat.sub_self, List.set_cons_zero]
end
theorem qmc {α : Type} (lt : α → α → Bool) : ∀ (l P : List α), (∀ y ∈ P, ∀ x ∈ l, lt x y = false) → l.Pairwise (fun y x => lt x y = false) → insS lt P l = P.reverse ++ l
 | [], P, _, _ => by rw [insS, List.append_nil]
 | x :: l, P, h, hp => by
  have hc := List.pairwise_cons.1 hp
  have e : insB lt x P = x :: P := by
   cases P with
   | nil => rfl
   | cons y r => rw [insB, h y List.mem_cons_self x List.mem_cons_self]; rfl
  rw [insS, e, qmc lt l (x :: P) (fun y hy z hz => by
   rcases List.mem_cons.1 hy with rfl | hy
   ·exact hc.1 z hz
   ·exact h y hy z (List.mem_cons_of_mem _ hz)) hc.2]
  simp
theorem qej {α : Type} {lt : α → α → Bool} {l : List α} (hp : l.Pairwise (fun y x => lt x y = false)) : isort lt l = l := by
 unfold isort;rw [qmc lt l [] (by simp) hp]; rfl
structure UpC {α : Type} (l : List α) (cmp : α → α → Option Int) : Prop where
 tot : ∀ x ∈ l, ∀ y ∈ l, ∃ r, cmp x y = some r
 up : ∀ (i j : Nat) (x y : α) (r : Int), i < j → l[i]? = some x → l[j]? = some y → cmp y x = some r → 0 ≤ r
theorem xc {α : Type} {l : List α} {i : Int} (h0 : 0 ≤ i) (h : i < (l.length : Int)) : ∃ x, ixO l i = some x := by
 unfold ixO;rw [decide_eq_true h0, cond_true];exact ⟨_, List.getElem?_eq_getElem (by omega)⟩
theorem qap {α : Type} {c : Bool} {x : Option α} {d : α} (h : c = true → ∃ z, x = some z) : ∃ z, (bif c then x else some d) = some z := by
 cases c
 ·exact ⟨d, rfl⟩
 ·exact h rfl
theorem UpC.ex {α : Type} {l : List α} {cmp : α → α → Option Int} (h : UpC l cmp) {i j : Int} {x y : α} (hx : ixO l i = some x) (hy : ixO l j = some y) : ∃ r, cmp x y = some r :=
 h.tot x (List.mem_of_getElem? (qt hx)) y (List.mem_of_getElem? (qt hy))
theorem UpC.ge {α : Type} {l : List α} {cmp : α → α → Option Int} (h : UpC l cmp) {i j : Int} {x y : α} {r : Int} (hy : ixO l j = some y) (hx : ixO l i = some x) (hr : cmp y x = some r) (hij : i < j) : 0 ≤ r :=
 h.up i.toNat j.toNat x y r (by have := zq hx; have := zq hy; omega) (qt hx) (qt hy) hr
section
variable {E : Env} {o : Oper} {ev : Operand → TV}
theorem qox {n : Int} (h : 0 ≤ n) (h' : n ≤ 9223372036854775807) : IntKind.u64.wrap n = n := by
 have e : IntKind.u64.wrap n = n % 18446744073709551616 := by
  simp [IntKind.wrap, IntKind.bits, IntKind.signed]
 rw [e]; omega
theorem wl {s t : TypeId} {x : Operand} {n : Int} {ds : TypeDesc} (ho : o.op = .convert s t x) (hs : E.P.underlying s = some ds) (ht : E.P.underlying t = some (.int .u64)) (hx : ev x = .g (.int n)) (h : 0 ≤ n) (h' : n ≤ 9223372036854775807) (mem : Mem) : Eff E o mem ev (.g (.lit (.int .u64 n))) := by
 have := qi9 (E := E) ho hs ht hx mem
 rwa [qox h h'] at this
theorem qaq {s t : TypeId} {x : Operand} {n : Int} {ds : TypeDesc} (ho : o.op = .convert s t x) (hs : E.P.underlying s = some ds) (ht : E.P.underlying t = some (.int .i64)) (hx : ev x = .g (.lit (.int .u64 n))) (h : I64 n) (mem : Mem) : Eff E o mem ev (.g (.int n)) := by
 have := qi9 (E := E) ho hs ht hx mem
 rwa [wrap_i64 h] at this
theorem qbt {t t' : TypeId} {x y : Operand} {k : IntKind} {a : Int} (ho : o.op = .binOp .shr t x y t') (hx : ev x = .g (.lit (.int .u64 a))) (hy : ev y = .g (.lit (.int k 1))) (h0 : 0 ≤ a) (mem : Mem) : Eff E o mem ev (.g (.lit (.int .u64 (a / 2)))) :=
 qep ho hx hy (fun w => ⟨.int .u64 (a / 2), by
  have h1 : Int.fdiv a (2 ^ min (1 : Int).toNat IntKind.u64.bits) = a / 2 := Int.fdiv_eq_ediv_of_nonneg a (by decide);simp only [eqGuard, binOp, Op.shift, h1]
  rfl, fun _ => rfl⟩) mem
end
def pvt (a b : Int) : Int := a + IntKind.i64.wrap (Int.tdiv (b - a) 4) * 2
theorem qmd {α : Type} {l : List α} {cmp : α → α → Option Int} (hU : UpC l cmp) {d : α} {e : Int} {b x : Int} {y1 y2 : α} {r : Int} (h1 : (bif decide (x < b) then ixO l x else some d) = some y1) (h2 : (bif decide (x < b) then ixO l (x - 1) else some d) = some y2) (h3 : (bif decide (x < b) then cmp y1 y2 else some e) = some r)
  (hx : x ≤ b) (h : ¬ x < b ∨ r < 0) (hb : ¬ x = b) : False := by
 have hlt : x < b := by
  omega
 have c := decide_eq_true hlt;rw [c, cond_true] at h1 h2 h3;have := hU.ge h1 h2 h3 (by omega)
 omega
end Go.Sim
set_option maxRecDepth 10000
namespace Go.Sim
open Go.Proofs
def s202 (a0 : Int) : Bool :=
 decide (a0 ≠ a0)
theorem c202 {g : List (Nat × List Value)} (a0 : Int)    : Con (EG g) 202 [G.int a0] (G.bool (s202 a0)) := by
 generalize hR : s202 a0 = R;unfold s202 at hR;refine qp Tryz.func202 rfl rfl fun w0 M0 => ?_;refine qb (qa [.p] (sa rfl rfl (qc (qb (qa [.p, .p, .p, .p] (sm rfl rfl ?_))))));refine sm rfl rfl (su (zw rfl rfl rfl) rfl (sa rfl rfl (qc (qo ?_))));subst hR;exact zd rfl (rv_g rfl)
def s252_l2 (rec1 : Int → (List Int) → Option (List Int)) (a1 : Int) (a3 : Int → Int → Option Int) (x1 : Int) : Nat → Int → (List Int) → Option (List Int)
 | 0, _, _ => none
 | k8 + 1, x5, x6 => bindO (bif decide (a1 < x5) then ixO x6 x5 else some default) fun y9 => bindO (bif decide (a1 < x5) then ixO x6 (x5 - 1) else some default) fun y10 => bindO (bif decide (a1 < x5) then a3 y9 y10 else some default) fun r11 => (bif (decide (a1 < x5)) && (decide (r11 < 0)) then bindO (ixO x6 (x5 - 1)) fun y12 => bindO (ixO x6 x5) fun y13 => bindO (ixO x6 x5) fun y14 => bindO (ixO (List.set x6 (Int.toNat x5) y12) (x5 - 1)) fun y15 => s252_l2 rec1 a1 a3 x1 k8 (x5 - 1) (List.set (List.set x6 (Int.toNat x5) y12) (Int.toNat (x5 - 1)) y13) else rec1 (x1 + 1) x6)
def s252_l1 (a1 : Int) (a3 : Int → Int → Option Int) : Nat → Int → (List Int) → Option (List Int)
 | 0, x1, x2 => some x2
 | k4 + 1, x1, x2 => s252_l2 (fun z0_ z1_ => s252_l1 a1 a3 k4 z0_ z1_) a1 a3 x1 (((x1 - a1).toNat) + 1) x1 x2
def s252 (a0 : List Int) (a1 : Int) (a2 : Int) (a3 : Int → Int → Option Int) : Option (List Int) :=
 s252_l1 a1 a3 ((a2 - (a1 + 1)).toNat) (a1 + 1) a0
theorem c252 {g : List (Nat × List Value)} (a0 : List Int) (a1 : Int) (a2 : Int) (a3 : Int → Int → Option Int) {R : List Int} {N0 : Nat} (hN0 : List.length a0 = N0) {ca3 : G} {ia3 : FuncId} {ka3 : List G} (ha3 : FnIs ca3 ia3 ka3) (Ka3 : Known Tryz.prog ia3) (Ha3 : ∀ (x0 : Int) (x1 : Int) (r : Int), a3 x0 x1 = some r → Con (EG g) ia3 ([G.int x0, G.int x1] ++ ka3) (G.int r)) (hA : 0 ≤ a1) (hA2 : a1 ≤ 1000000) (hB : a2 ≤ 1000000) (hR : s252 a0 a1 a2 a3 = some R) : ConB (EG g) 252 [.osl 0 1 0 N0, .g (G.int a1), .g (G.int a2), .g (ca3)] [(0, .arr 3 1 (List.map cInt a0))] (G.tup []) [(0, .arr 3 1 (List.map cInt R))] := by
 unfold s252 at hR;refine jd Tryz.func252 rfl rfl rfl fun w0 M0 x => ?_;refine kl (f := cInt) (l := a0) 0 rfl fun hla0 => ?_;refine qb (qa [.p, .p, .p] (sm rfl rfl (su (ze rfl rfl rfl iF) rfl (sa rfl rfl (qc (ql ?_))))));refine qu (γ := Nat × Int × (List Int)) (fun g => ([(0, .osl 0 1 0 (N0)), (1, .g (G.int a1)), (2, .g (G.int a2)), (3, .g (ca3)), (8, .g (G.int g.2.1))], [(0, .arr 3 1 (List.map cInt g.2.2))])) (fun g => g.1 = (a2 - g.2.1).toNat ∧ (a1 + 1) ≤ g.2.1 ∧ List.length g.2.2 = N0 ∧ s252_l1 a1 a3 g.1 g.2.1 g.2.2 = some R) (fun g => g.1) ⟨rfl, ((a2 - (a1 + 1)).toNat, a1 + 1, a0), ⟨rfl, rfl, rfl, rfl, rfl, trivial⟩, ⟨rfl, trivial⟩, rfl, ⟨rfl, iD, hN0, hR⟩, trivial⟩ ?_
 ·rintro ⟨k4, x1, x2⟩ ⟨hk1, iv1_0, ln3, hR⟩;replace hk1 : k4 = (a2 - x1).toNat := hk1;replace hR : s252_l1 a1 a3 k4 x1 x2 = some R := hR;replace iv1_0 : (a1 + 1) ≤ x1 := iv1_0;replace ln3 : List.length x2 = N0 := ln3;refine qb (qb (qa [.p, .p, .p] (sm rfl rfl (sm rfl rfl (su (qy rfl rfl rfl) rfl (qc ?_))))));refine qi _ rfl (fun h1 => ?_) (fun h1 => ?_)
  ·replace h1 : (decide (x1 < a2)) = true := h1;replace h1 := decT h1;obtain ⟨k4, rfl⟩ : ∃ m, k4 = m + 1 := ⟨k4 - 1, by omega⟩;rw [s252_l1] at hR;(try dsimp only at hR);refine qm (qb (ql (qb (qa [.p, .p] (sm rfl rfl (sa rfl rfl ?_))))));refine qc (ql (qu (γ := Nat × Int × (List Int)) (fun g => ([(0, .osl 0 1 0 (N0)), (1, .g (G.int a1)), (2, .g (G.int a2)), (3, .g (ca3)), (8, .g (G.int x1)), (9, .g (G.int g.2.1))], [(0, .arr 3 1 (List.map cInt g.2.2))])) (fun g => (g.2.1 - a1).toNat < g.1 ∧ a1 ≤ g.2.1 ∧ g.2.1 ≤ 1000000 ∧ List.length g.2.2 = N0 ∧ s252_l2 (fun z0_ z1_ => s252_l1 a1 a3 k4 z0_ z1_) a1 a3 x1 g.1 g.2.1 g.2.2 = some R) (fun g => g.1) ⟨rfl, (((x1 - a1).toNat) + 1, x1, x2), ⟨rfl, rfl, rfl, rfl, rfl, rfl, trivial⟩, ⟨rfl, trivial⟩, rfl, ⟨Nat.lt_succ_self _, iD, iD, ln3, hR⟩, trivial⟩ ?_))
   ·rintro ⟨k8, x5, x6⟩ ⟨hk2, iv2_0, iv2_1, ln7, hR⟩;replace hk2 : (x5 - a1).toNat < k8 := hk2;replace hR : s252_l2 (fun z0_ z1_ => s252_l1 a1 a3 k4 z0_ z1_) a1 a3 x1 k8 x5 x6 = some R := hR;replace iv2_0 : a1 ≤ x5 := iv2_0;replace iv2_1 : x5 ≤ 1000000 := iv2_1;replace ln7 : List.length x6 = N0 := ln7;obtain ⟨k8, rfl⟩ : ∃ m, k8 = m + 1 := ⟨k8 - 1, by omega⟩;rw [s252_l2] at hR;(try dsimp only at hR);refine qb (qb ?_);obtain ⟨y9, by9, hR⟩ := qj hR;obtain ⟨y10, by10, hR⟩ := qj hR;obtain ⟨r11, br11, hR⟩ := qj hR;refine z0 [.p, .p, .p, .p, .p, .p, .p, .p, .r, .p, .p, .p, .p, .r, .p, .p, .p] (by kernel_rfl) (sm rfl rfl (sm rfl rfl (su (jh rfl rfl rfl) rfl (sm rfl rfl (sg rfl rfl (fun h => qh rfl rfl) rfl (sg rfl rfl (fun h => qn rfl rfl) rfl ?_))))));refine sg rfl rfl (fun h => qh rfl rfl) rfl (sg rfl rfl (fun h => ji rfl Tryz.underlying82 ty3 (gd h rfl) (gd h rfl) (zq (jb by9 h)) (Nat.lt_of_lt_of_eq (jj (qt (jb by9 h))) ln7)) rfl (qab rfl rfl rfl (kz _ _) (fun h => vj (f := cInt) (l := x6) (a := y9) rfl ty3 (gd h rfl) rfl (qt (jb by9 h)) rfl) rfl ?_));refine sg rfl rfl (fun h => qn rfl rfl) rfl (sg rfl rfl (fun h => qh rfl rfl) rfl (sg rfl rfl (fun h => j9 rfl (gd h rfl) rfl iF) rfl (sg rfl rfl (fun h => ji rfl Tryz.underlying82 ty3 (gd h rfl) (gd h rfl) (zq (jb by10 h)) (Nat.lt_of_lt_of_eq (jj (qt (jb by10 h))) ln7)) rfl (qab rfl rfl rfl (kz _ _) (fun h => vj (f := cInt) (l := x6) (a := y10) rfl ty3 (gd h rfl) rfl (qt (jb by10 h)) rfl) rfl ?_))));refine sg rfl rfl (fun h => jv rfl ha3 Ka3 (gd h rfl) (Con.lend (Ha3 y9 y10 _ (jb br11 h))) (qd (gd h rfl) (qd (gd h rfl) qk))) rfl (sg rfl rfl (fun h => qy rfl (gd h rfl) rfl) rfl (su (zk rfl rfl rfl rfl) rfl (qc (qi _ rfl (fun h3 => ?_) (fun h3 => ?_)))))
    ·replace h3 : ((decide (a1 < x5)) && (decide (r11 < 0))) = true := h3;replace hR := zl hR h3;(try simp only [bB] at h3);refine qm (qb (ql ?_));obtain ⟨y12, by12, hR⟩ := qj hR;obtain ⟨y13, by13, hR⟩ := qj hR;obtain ⟨y14, by14, hR⟩ := qj hR;obtain ⟨y15, by15, hR⟩ := qj hR;refine z0 [.p, .p, .p, .p, .p, .p, .p, .p, .p, .r, .p, .p, .p, .r, .p, .w, .p, .w] (by kernel_rfl) (su (qn rfl rfl) rfl (sm rfl rfl (su (qn rfl rfl) rfl (sm rfl rfl (su (j9 rfl rfl rfl iF) rfl (su (qn rfl rfl) rfl ?_))))));refine sm rfl rfl (su (j9 rfl rfl rfl iF) rfl (su (ji rfl Tryz.underlying82 ty3 rfl rfl (zq by12) (Nat.lt_of_lt_of_eq (jj (qt by12)) ln7)) rfl (sr (vj (f := cInt) (l := x6) (a := y12) rfl ty3 rfl rfl (qt by12) rfl) rfl (su (qn rfl rfl) rfl (sm rfl rfl (su (ji rfl Tryz.underlying82 ty3 rfl rfl (zq by13) (Nat.lt_of_lt_of_eq (jj (qt by13)) ln7)) rfl ?_))))));refine sr (vj (f := cInt) (l := x6) (a := y13) rfl ty3 rfl rfl (qt by13) rfl) rfl (su (ji rfl Tryz.underlying82 ty3 rfl rfl (zq by14) (Nat.lt_of_lt_of_eq (jj (qt by14)) ln7)) rfl (js rfl rfl (xd (f := cInt) (l := x6) (a' := y12) rfl ty3 rfl rfl rfl (Nat.lt_of_lt_of_eq (Nat.lt_of_lt_of_eq (jj (qt by14)) ln7) (Eq.symm ln7)) rfl (fun _ => rfl)) (su (ji rfl Tryz.underlying82 ty3 rfl rfl (zq by15) (Nat.lt_of_lt_of_eq (jj (qt by15)) ((List.length_set ..).trans ln7))) rfl (js rfl rfl (xd (f := cInt) (l := List.set x6 (Int.toNat x5) y12) (a' := y13) rfl ty3 rfl rfl rfl (Nat.lt_of_lt_of_eq (Nat.lt_of_lt_of_eq (jj (qt by15)) ((List.length_set ..).trans ln7)) (Eq.symm ((List.length_set ..).trans ln7))) rfl (fun _ => rfl)) (qc (qa [.p, .p, .p] ?_))))));refine sm rfl rfl (su (j9 rfl rfl rfl iF) rfl (sa rfl rfl (qc ?_)));exact ⟨rfl, (k8, x5 - 1, List.set (List.set x6 (Int.toNat x5) y12) (Int.toNat (x5 - 1)) y13), ⟨(by simp only [List.length_set]; rfl), rfl, rfl, rfl, rfl, rfl, trivial⟩, ⟨rfl, trivial⟩, rfl, ⟨iB, iB, iB, ((List.length_set ..).trans ((List.length_set ..).trans ln7)), hR⟩, by simp⟩
    ·replace h3 : ((decide (a1 < x5)) && (decide (r11 < 0))) = false := h3;replace hR := zt hR h3;(try simp only [bB] at h3);refine zc ?_;refine qa [.p, .p, .p] (sm rfl rfl (su (ze rfl rfl rfl iG) rfl (sa rfl rfl (qc ?_))));exact ⟨rfl, (k4, x1 + 1, x6), ⟨rfl, rfl, rfl, rfl, rfl, trivial⟩, ⟨rfl, trivial⟩, rfl, ⟨iB, iB, ln7, hR⟩, by simp⟩
  ·replace h1 : (decide (x1 < a2)) = false := h1;replace h1 := decF h1
   obtain rfl : k4 = 0 := by omega
   rw [s252_l1] at hR;refine zc ?_;obtain rfl := Option.some.inj hR;show ResOk _ _ _ _ ∧ MemL _ _;exact ⟨res0 rfl, ⟨rfl, trivial⟩⟩
theorem qgc (rec1 : Int → List Int → Option (List Int)) (hrec : ∀ x l r, rec1 x l = some r → r.length = l.length) (a1 : Int) (a3 : Int → Int → Option Int) (x1 : Int) : ∀ (k : Nat) (x : Int) (l r : List Int), s252_l2 rec1 a1 a3 x1 k x l = some r → r.length = l.length
 | 0, _, _, _, h => by rw [s252_l2] at h; cases h
 | k + 1, x, l, r, h => by
  rw [s252_l2] at h;obtain ⟨y1, _, h⟩ := qj h;obtain ⟨y2, _, h⟩ := qj h;obtain ⟨y3, _, h⟩ := qj h
  cases hc : (decide (a1 < x) && decide (y3 < 0)) with
  | true =>
   have h := zl h hc;obtain ⟨y4, _, h⟩ := qj h;obtain ⟨y5, _, h⟩ := qj h;obtain ⟨y6, _, h⟩ := qj h;obtain ⟨y7, _, h⟩ := qj h;have := qgc rec1 hrec a1 a3 x1 k _ _ _ h
   simpa using this
  | false => exact hrec _ _ _ (zt h hc)
theorem qgd (a1 : Int) (a3 : Int → Int → Option Int) : ∀ (k : Nat) (x : Int) (l r : List Int), s252_l1 a1 a3 k x l = some r → r.length = l.length
 | 0, _, _, _, h => by rw [s252_l1] at h; cases h; rfl
 | k + 1, x, l, r, h => by
  rw [s252_l1] at h;exact qgc _ (fun x l r h => qgd a1 a3 k x l r h) a1 a3 x _ _ _ _ h
theorem qt7 {a0 : List Int} {a1 a2 : Int} {a3 : Int → Int → Option Int} {R : List Int} (h : s252 a0 a1 a2 a3 = some R) : R.length = a0.length := qgd _ _ _ _ _ _ h
end Go.Sim
namespace Go.Ex
open Go.Proofs
def lenT (n : Int) : Int := bif decide (n ≤ 0) then 0 else bif decide (n ≤ 1) then 1 else bif decide (n ≤ 3) then 2 else bif decide (n ≤ 7) then 3 else 4
end Go.Ex
namespace Go.Sim
open Go.Proofs Go.Ex
def lenU (n : Int) : Int := lenT n
end Go.Sim
set_option maxRecDepth 10000
namespace Go.Sim
open Go.Proofs
def s167 (a0 : Int) (a1 : Int) : Int :=
 (bif (s202 a0) then (bif (s202 a1) then 0 else (-1)) else (bif (s202 a1) then 1 else (bif decide (a0 < a1) then (-1) else (bif decide (a1 < a0) then 1 else 0))))
theorem c167 {g : List (Nat × List Value)} (a0 : Int) (a1 : Int)    : Con (EG g) 167 [G.int a0, G.int a1] (G.int (s167 a0 a1)) := by
 generalize hR : s167 a0 a1 = R;unfold s167 at hR;refine qp Tryz.func167 rfl rfl fun w0 M0 => ?_;refine qb (qa [.p] (sa rfl rfl (qc (qb (qa [.p, .p, .p] (sm rfl rfl ?_))))));refine su (qf rfl K202 rfl (c202 a0) (qd rfl qk)) rfl (sa rfl rfl (qc (qb (qa [.p, .p, .p] (sm rfl rfl (su (qf rfl K202 rfl (c202 a1) (qd rfl qk)) rfl ?_))))));refine sa rfl rfl (qc (qb (qb (qa [.p] (sm rfl rfl (qc ?_))))));refine qi _ rfl (fun h1 => ?_) (fun h1 => ?_)
 ·replace h1 : ((s202 a0)) = true := h1;replace hR := zl hR h1;(try simp only [bB] at h1);refine qb (qb (qa [.p] (sm rfl rfl (qc (qi _ rfl (fun h2 => ?_) (fun h2 => ?_))))))
  ·replace hR := zl hR h2;refine qb (qa [.p] (sa rfl rfl (qc (qo ?_))));subst hR;exact zd rfl (rv_g rfl)
  ·replace hR := zt hR h2;refine qm (qb (qa [.p] (sa rfl rfl (qc (qo ?_)))));subst hR;exact zd rfl (rv_g rfl)
 ·replace h1 : ((s202 a0)) = false := h1;replace hR := zt hR h1;(try simp only [bB] at h1);refine qm (qb (qb (qa [.p] (sm rfl rfl (qc (qi _ rfl (fun h3 => ?_) (fun h3 => ?_)))))))
  ·replace hR := zl hR h3;refine qb (qa [.p] (sa rfl rfl (qc (qo ?_))));subst hR;exact zd rfl (rv_g rfl)
  ·replace h3 : ((s202 a1)) = false := h3;replace hR := zt hR h3;(try simp only [bB] at h3);refine qm (qb (qb (qa [.p, .p, .p] (sm rfl rfl (sm rfl rfl (su (qy rfl rfl rfl) rfl ?_))))));refine qc (qi _ rfl (fun h4 => ?_) (fun h4 => ?_))
   ·replace hR := zl hR h4;refine qb (qa [.p] (sa rfl rfl (qc (qo ?_))));subst hR;exact zd rfl (rv_g rfl)
   ·replace h4 : (decide (a0 < a1)) = false := h4;replace hR := zt hR h4;(try simp only [bB] at h4);refine qm (qb (qb (qa [.p, .p, .p] (sm rfl rfl (sm rfl rfl (su (jh rfl rfl rfl) rfl ?_))))));refine qc (qi _ rfl (fun h5 => ?_) (fun h5 => ?_))
    ·replace hR := zl hR h5;refine qb (qa [.p] (sa rfl rfl (qc (qo ?_))));subst hR;exact zd rfl (rv_g rfl)
    ·replace hR := zt hR h5;refine qm (qb (qa [.p] (sa rfl rfl (qc (qo ?_)))));subst hR;exact zd rfl (rv_g rfl)
def s233_l2 (r6 : List Int) : Nat → Int → Option (List Int)
 | 0, _ => none
 | k8 + 1, x7 => some r6
def s233_l1 (a1 : Int) (a2 : Int → Int → Option Int) : Nat → Int → Int → (List Int) → Option (List Int)
 | 0, _, _, _ => none
 | k5 + 1, x1, x2, x3 => bindO (s252 x3 x1 a1 a2) fun r6 => s233_l2 r6 ((0) + 1) 20
def s233 (a0 : List Int) (a1 : Int) (a2 : Int → Int → Option Int) : Option (List Int) :=
 s233_l1 a1 a2 ((0) + 1) 0 20 a0
theorem c233 {g : List (Nat × List Value)} (a0 : List Int) (a1 : Int) (a2 : Int → Int → Option Int) {R : List Int} {N0 : Nat} (hN0 : List.length a0 = N0) {ca2 : G} {ia2 : FuncId} {ka2 : List G} (ha2 : FnIs ca2 ia2 ka2) (Ka2 : Known Tryz.prog ia2) (Ha2 : ∀ (x0 : Int) (x1 : Int) (r : Int), a2 x0 x1 = some r → Con (EG g) ia2 ([G.int x0, G.int x1] ++ ka2) (G.int r)) (hA : 0 ≤ a1) (hB : a1 ≤ 12) (hR : s233 a0 a1 a2 = some R) : ConB (EG g) 233 [.osl 0 1 0 N0, .g (G.int a1), .g (ca2)] [(0, .arr 3 1 (List.map cInt a0))] (G.tup []) [(0, .arr 3 1 (List.map cInt R))] := by
 unfold s233 at hR;refine jd Tryz.func233 rfl rfl rfl fun w0 M0 x => ?_;refine kl (f := cInt) (l := a0) 0 rfl fun hla0 => ?_;refine qb (qa [.p] (sa rfl rfl (qc (qb (qa [.p, .p, .p] (sm rfl rfl ?_))))));refine sa rfl rfl (sa rfl rfl (qc (qb (ql (qu (γ := Nat × Int × Int × (List Int)) (fun g => ([(0, .osl 0 1 0 (N0)), (1, .g (G.int a1)), (2, .g (ca2)), (6, .g (G.int 20)), (7, .g (G.int g.2.1)), (8, .g (G.int g.2.2.1))], [(0, .arr 3 1 (List.map cInt g.2.2.2))])) (fun g => 0 < g.1 ∧ g.2.1 = 0 ∧ g.2.2.1 = 20 ∧ List.length g.2.2.2 = N0 ∧ s233_l1 a1 a2 g.1 g.2.1 g.2.2.1 g.2.2.2 = some R) (fun g => g.1) ⟨rfl, ((0) + 1, 0, 20, a0), ⟨rfl, rfl, rfl, rfl, rfl, rfl, trivial⟩, ⟨rfl, trivial⟩, rfl, ⟨Nat.lt_succ_self _, iD, iD, hN0, hR⟩, trivial⟩ ?_)))))
 ·rintro ⟨k5, x1, x2, x3⟩ ⟨hk1, iv1_0, iv1_1, ln4, hR⟩;replace hk1 : 0 < k5 := hk1;replace hR : s233_l1 a1 a2 k5 x1 x2 x3 = some R := hR;replace iv1_0 : x1 = 0 := iv1_0;replace iv1_1 : x2 = 20 := iv1_1;replace ln4 : List.length x3 = N0 := ln4;obtain ⟨k5, rfl⟩ : ∃ m, k5 = m + 1 := ⟨k5 - 1, by omega⟩;rw [s233_l1] at hR;(try dsimp only at hR);refine qb (qb (qa [.p, .p, .p] (sm rfl rfl (sm rfl rfl (su (vq rfl rfl rfl) rfl (qc ?_))))));refine qi _ rfl (fun h1 => ?_) (fun h1 => ?_)
  ·(try simp only [bB] at h1)
   exfalso; omega
  ·replace h1 : (decide (x2 ≤ a1)) = false := h1;(try simp only [bB] at h1);refine zc ?_;refine qb ?_;obtain ⟨r6, br6, hR⟩ := qj hR;refine qa [.p, .p, .p, .p, .w] (su (qn rfl rfl) rfl (sm rfl rfl (sm rfl rfl (sm rfl rfl (sw (z8 0 0 rfl K252 rfl (ConB.lend (c252 x3 x1 a1 a2 ln4 ha2 Ka2 Ha2 iA iA iA br6)) (qq rfl rfl (qq rfl rfl (qq rfl rfl (qq rfl rfl j5)))) rfl rfl rfl) rfl (qc ?_))))));refine ql (qu (γ := Nat × Int) (fun g => ([(0, .osl 0 1 0 (N0)), (1, .g (G.int a1)), (2, .g (ca2)), (6, .g (G.int g.2))], [(0, .arr 3 1 (List.map cInt r6))])) (fun g => 0 < g.1 ∧ g.2 = 20 ∧ s233_l2 r6 g.1 g.2 = some R) (fun g => g.1) ⟨rfl, ((0) + 1, 20), ⟨rfl, rfl, rfl, rfl, trivial⟩, ⟨rfl, trivial⟩, rfl, ⟨Nat.lt_succ_self _, iD, hR⟩, trivial⟩ ?_)
   ·rintro ⟨k8, x7⟩ ⟨hk2, iv2_0, hR⟩;replace hk2 : 0 < k8 := hk2;replace hR : s233_l2 r6 k8 x7 = some R := hR;replace iv2_0 : x7 = 20 := iv2_0;obtain ⟨k8, rfl⟩ : ∃ m, k8 = m + 1 := ⟨k8 - 1, by omega⟩;rw [s233_l2] at hR;(try dsimp only at hR);refine qb (qb (qa [.p, .p, .p] (sm rfl rfl (sm rfl rfl (su (qy rfl rfl rfl) rfl (qc ?_))))));refine qi _ rfl (fun h2 => ?_) (fun h2 => ?_)
    ·(try simp only [bB] at h2)
     exfalso; omega
    ·refine zc ?_;obtain rfl := Option.some.inj hR;show ResOk _ _ _ _ ∧ MemL _ _;exact ⟨res0 rfl, ⟨rfl, trivial⟩⟩
def s225_l2 (rec1 : Int → (List S154) → Option (List S154)) (a1 : Int) (a3 : S154 → S154 → Option Int) (x1 : Int) : Nat → Int → (List S154) → Option (List S154)
 | 0, _, _ => none
 | k8 + 1, x5, x6 => bindO (bif decide (a1 < x5) then ixO x6 x5 else some default) fun y9 => bindO (bif decide (a1 < x5) then ixO x6 (x5 - 1) else some default) fun y10 => bindO (bif decide (a1 < x5) then a3 y9 y10 else some default) fun r11 => (bif (decide (a1 < x5)) && (decide (r11 < 0)) then bindO (ixO x6 (x5 - 1)) fun y12 => bindO (ixO x6 x5) fun y13 => bindO (ixO x6 x5) fun y14 => bindO (ixO (List.set x6 (Int.toNat x5) y12) (x5 - 1)) fun y15 => s225_l2 rec1 a1 a3 x1 k8 (x5 - 1) (List.set (List.set x6 (Int.toNat x5) y12) (Int.toNat (x5 - 1)) y13) else rec1 (x1 + 1) x6)
def s225_l1 (a1 : Int) (a3 : S154 → S154 → Option Int) : Nat → Int → (List S154) → Option (List S154)
 | 0, x1, x2 => some x2
 | k4 + 1, x1, x2 => s225_l2 (fun z0_ z1_ => s225_l1 a1 a3 k4 z0_ z1_) a1 a3 x1 (((x1 - a1).toNat) + 1) x1 x2
def s225 (a0 : List S154) (a1 : Int) (a2 : Int) (a3 : S154 → S154 → Option Int) : Option (List S154) :=
 s225_l1 a1 a3 ((a2 - (a1 + 1)).toNat) (a1 + 1) a0
def s234_l2 (rec1 : Int → (List S151) → Option (List S151)) (a1 : Int) (a3 : S151 → S151 → Option Int) (x1 : Int) : Nat → Int → (List S151) → Option (List S151)
 | 0, _, _ => none
 | k8 + 1, x5, x6 => bindO (bif decide (a1 < x5) then ixO x6 x5 else some default) fun y9 => bindO (bif decide (a1 < x5) then ixO x6 (x5 - 1) else some default) fun y10 => bindO (bif decide (a1 < x5) then a3 y9 y10 else some default) fun r11 => (bif (decide (a1 < x5)) && (decide (r11 < 0)) then bindO (ixO x6 (x5 - 1)) fun y12 => bindO (ixO x6 x5) fun y13 => bindO (ixO x6 x5) fun y14 => bindO (ixO (List.set x6 (Int.toNat x5) y12) (x5 - 1)) fun y15 => s234_l2 rec1 a1 a3 x1 k8 (x5 - 1) (List.set (List.set x6 (Int.toNat x5) y12) (Int.toNat (x5 - 1)) y13) else rec1 (x1 + 1) x6)
def s234_l1 (a1 : Int) (a3 : S151 → S151 → Option Int) : Nat → Int → (List S151) → Option (List S151)
 | 0, x1, x2 => some x2
 | k4 + 1, x1, x2 => s234_l2 (fun z0_ z1_ => s234_l1 a1 a3 k4 z0_ z1_) a1 a3 x1 (((x1 - a1).toNat) + 1) x1 x2
def s234 (a0 : List S151) (a1 : Int) (a2 : Int) (a3 : S151 → S151 → Option Int) : Option (List S151) :=
 s234_l1 a1 a3 ((a2 - (a1 + 1)).toNat) (a1 + 1) a0
theorem qt8 {a0 : List Int} {a1 : Int} {a2 : Int → Int → Option Int} {R : List Int} (h : s233 a0 a1 a2 = some R) : R.length = a0.length := by
 unfold s233 at h;rw [s233_l1] at h;obtain ⟨y1, h1, h⟩ := qj h;rw [s233_l2] at h
 cases h
 exact qt7 h1
theorem qge (rec1 : Int → List S151 → Option (List S151)) (hrec : ∀ x l r, rec1 x l = some r → r.length = l.length) (a1 : Int) (a3 : S151 → S151 → Option Int) (x1 : Int) : ∀ (k : Nat) (x : Int) (l r : List S151), s234_l2 rec1 a1 a3 x1 k x l = some r → r.length = l.length
 | 0, _, _, _, h => by rw [s234_l2] at h; cases h
 | k + 1, x, l, r, h => by
  rw [s234_l2] at h;obtain ⟨y1, _, h⟩ := qj h;obtain ⟨y2, _, h⟩ := qj h;obtain ⟨y3, _, h⟩ := qj h
  cases hc : (decide (a1 < x) && decide (y3 < 0)) with
  | true =>
   have h := zl h hc;obtain ⟨y4, _, h⟩ := qj h;obtain ⟨y5, _, h⟩ := qj h;obtain ⟨y6, _, h⟩ := qj h;obtain ⟨y7, _, h⟩ := qj h;have := qge rec1 hrec a1 a3 x1 k _ _ _ h
   simpa using this
  | false => exact hrec _ _ _ (zt h hc)
theorem qgf (a1 : Int) (a3 : S151 → S151 → Option Int) : ∀ (k : Nat) (x : Int) (l r : List S151), s234_l1 a1 a3 k x l = some r → r.length = l.length
 | 0, _, _, _, h => by rw [s234_l1] at h; cases h; rfl
 | k + 1, x, l, r, h => by
  rw [s234_l1] at h;exact qge _ (fun x l r h => qgf a1 a3 k x l r h) a1 a3 x _ _ _ _ h
theorem qt9 {a0 : List S151} {a1 a2 : Int} {a3 : S151 → S151 → Option Int} {R : List S151} (h : s234 a0 a1 a2 a3 = some R) : R.length = a0.length := qgf _ _ _ _ _ _ h
end Go.Sim
set_option maxRecDepth 10000
namespace Go.Sim
open Go.Proofs
def s203 (a0 : List Int) (a1 : Int → Int → Option Int) : Option (List Int) :=
 bindO (s233 a0 (List.length a0 : Int) a1) fun r1 => some r1
theorem c203 {g : List (Nat × List Value)} (a0 : List Int) (a1 : Int → Int → Option Int) {R : List Int} {N0 : Nat} (hN0 : List.length a0 = N0) {ca1 : G} {ia1 : FuncId} {ka1 : List G} (ha1 : FnIs ca1 ia1 ka1) (Ka1 : Known Tryz.prog ia1) (Ha1 : ∀ (x0 : Int) (x1 : Int) (r : Int), a1 x0 x1 = some r → Con (EG g) ia1 ([G.int x0, G.int x1] ++ ka1) (G.int r)) (hB : (List.length a0 : Int) ≤ 12) (hR : s203 a0 a1 = some R) : ConB (EG g) 203 [.osl 0 1 0 N0, .g (ca1)] [(0, .arr 3 1 (List.map cInt a0))] (G.tup []) [(0, .arr 3 1 (List.map cInt R))] := by
 unfold s203 at hR;refine jd Tryz.func203 rfl rfl rfl fun w0 M0 x => ?_;refine kl (f := cInt) (l := a0) 0 rfl fun hla0 => ?_;obtain ⟨r1, br1, hR⟩ := qj hR;refine qa [.p, .p, .p, .p, .w] (su (qn rfl rfl) rfl (su (qn rfl rfl) rfl (su (qb9 hN0 rfl Tryz.underlying82 rfl) rfl (sm rfl rfl (sw (z8 0 0 rfl K233 rfl (ConB.lend (c233 a0 (List.length a0 : Int) a1 hN0 ha1 Ka1 Ha1 iA iA br1)) (qq rfl rfl (qq rfl rfl (qq rfl rfl j5))) rfl rfl rfl) rfl (qc ?_))))));obtain rfl := Option.some.inj hR;show ResOk _ _ _ _ ∧ MemL _ _;exact ⟨res0 rfl, ⟨rfl, trivial⟩⟩
def s201_l1 (a0 : List S154) (a4 : S154 → S154 → Option Int) : Nat → Int → Int → Int → Bool → Bool → Option (List S154)
 | 0, _, _, _, _, _ => none
 | k6 + 1, x1, x2, x3, x4, x5 => bindO (s225 a0 x1 x2 a4) fun r7 => some r7
def s201 (a0 : List S154) (a1 : Int) (a2 : Int) (a3 : Int) (a4 : S154 → S154 → Option Int) : Option (List S154) :=
 s201_l1 a0 a4 ((0) + 1) a1 a2 a3 true true
def s205_l1 (a0 : List S151) (a4 : S151 → S151 → Option Int) : Nat → Int → Int → Int → Bool → Bool → Option (List S151)
 | 0, _, _, _, _, _ => none
 | k6 + 1, x1, x2, x3, x4, x5 => bindO (s234 a0 x1 x2 a4) fun r7 => some r7
def s205 (a0 : List S151) (a1 : Int) (a2 : Int) (a3 : Int) (a4 : S151 → S151 → Option Int) : Option (List S151) :=
 s205_l1 a0 a4 ((0) + 1) a1 a2 a3 true true
theorem ql2 {a0 : List Int} {a1 : Int → Int → Option Int} {R : List Int} (h : s203 a0 a1 = some R) : R.length = a0.length := by
 unfold s203 at h;obtain ⟨y1, h1, h⟩ := qj h
 cases h
 exact qt8 h1
theorem qua {a0 : List S151} {a1 a2 a3 : Int} {a4 : S151 → S151 → Option Int} {R : List S151} (h : s205 a0 a1 a2 a3 a4 = some R) : R.length = a0.length := by
 unfold s205 at h;rw [s205_l1] at h;obtain ⟨y1, h1, h⟩ := qj h
 cases h
 exact qt9 h1
end Go.Sim
set_option maxRecDepth 10000
namespace Go.Sim
open Go.Proofs
def s165 (a0 : List S154) (a1 : S154 → S154 → Option Int) : Option (List S154) :=
 bindO (s201 a0 0 (List.length a0 : Int) (lenU (List.length a0 : Int)) a1) fun r1 => some r1
def s174 (a0 : List S151) (a1 : S151 → S151 → Option Int) : Option (List S151) :=
 bindO (s205 a0 0 (List.length a0 : Int) (lenU (List.length a0 : Int)) a1) fun r1 => some r1
end Go.Sim
namespace Go.Ex
open Go.Proofs
def lenT2 (n : Nat) : Int := if n = 0 then 0 else if n ≤ 1 then 1 else if n ≤ 3 then 2 else if n ≤ 7 then 3 else if n ≤ 15 then 4 else if n ≤ 31 then 5 else 6
theorem qoy : (List.range 64).all (fun n => isInt (lenT2 n) (call Tryz.prog gl (fun _ _ _ _ _ => none) 40 182 [.lit (.int .u64 ((n : Nat) : Int))] h0 1000 1000)) = true := by kernel_rfl
theorem qoz (n : Nat) (h : n < 64) : Sim.Con (Sim.EG Sim.glT) 182 [Sim.G.lit (.int .u64 ((n : Nat) : Int))] (Sim.G.int (lenT2 n)) := by
 obtain ⟨h', c', h⟩ := xr (List.all_eq_true.1 qoy n (List.mem_range.2 h));exact j8 (vs := [.int .u64 ((n : Nat) : Int)]) xt vz (by decide) (qfy (by decide)) h
end Go.Ex
namespace Go.Sim
open Go.Proofs Go.Ex
def lenX (n : Int) : Int := lenT2 n.toNat
theorem qv8 (n : Int) (h0 : 0 ≤ n) (h : n ≤ 63) : Con (EG glT) 182 [G.lit (.int .u64 n)] (G.int (lenX n)) := by
 obtain ⟨k, rfl⟩ := Int.eq_ofNat_of_zero_le h0;exact qoz k (by omega)
theorem qrn {n : Int} (h : 12 < n) : lenX n ≠ 0 := by
 unfold lenX lenT2
 repeat' split
 all_goals omega
end Go.Sim
set_option maxRecDepth 10000
namespace Go.Sim
open Go.Proofs
theorem qv9 {g : List (Nat × List Value)} (a0 : List S151) (a1 : Int) (a2 : Int) (a3 : S151 → S151 → Option Int) {N0 : Nat} (hN0 : List.length a0 = N0) {ca3 : G} {ia3 : FuncId} {ka3 : List G} (ha3 : FnIs ca3 ia3 ka3) (Ka3 : Known Tryz.prog ia3) (Ha3 : ∀ (x0 : S151) (x1 : S151) (r : Int), a3 x0 x1 = some r → Con (EG g) ia3 ([G.agg [G.str x0.Name, G.int x0.Moment, G.str x0.Kind], G.agg [G.str x1.Name, G.int x1.Moment, G.str x1.Kind]] ++ ka3) (G.int r)) (hA : 0 ≤ a1) (hA2 : a1 ≤ 2000) (hB : a2 ≤ (a0.length : Int)) (hL : a0.length ≤ 63) (hU : UpC a0 a3)  : ConB (EG g) 234 [.osl 0 3 0 N0, .g (G.int a1), .g (G.int a2), .g (ca3)] [(0, .arr 152 3 (List.map S151.c a0))] (G.tup []) [(0, .arr 152 3 (List.map S151.c (a0 : List S151)))] := by
 refine jd Tryz.func234 rfl rfl rfl fun w0 M0 x => ?_;refine kl (f := S151.c) (l := a0) 0 rfl fun hla0 => ?_;refine qb (qa [.p, .p, .p] (sm rfl rfl (su (ze rfl rfl rfl iF) rfl (sa rfl rfl (qc (ql ?_))))));refine qu (γ := Nat × Int) (fun g => ([(0, .osl 0 3 0 (N0)), (1, .g (G.int a1)), (2, .g (G.int a2)), (3, .g (ca3)), (8, .g (G.int g.2))], [(0, .arr 152 3 (List.map S151.c a0))])) (fun g => (a2 - g.2).toNat < g.1 ∧ a1 < g.2 ∧ g.2 ≤ 3000) (fun g => g.1) ⟨rfl, (((a2 - (a1 + 1)).toNat) + 1, a1 + 1), ⟨rfl, rfl, rfl, rfl, rfl, trivial⟩, ⟨rfl, trivial⟩, rfl, ⟨Nat.lt_succ_self _, iD, iD⟩, trivial⟩ ?_
 ·rintro ⟨k2, x1⟩ ⟨hk1, iv1_0, iv1_1⟩;replace hk1 : (a2 - x1).toNat < k2 := hk1;replace iv1_0 : a1 < x1 := iv1_0;replace iv1_1 : x1 ≤ 3000 := iv1_1;obtain ⟨k2, rfl⟩ : ∃ m, k2 = m + 1 := ⟨k2 - 1, by omega⟩;refine qb (qb (qa [.p, .p, .p] (sm rfl rfl (sm rfl rfl (su (qy rfl rfl rfl) rfl (qc ?_))))));refine qi _ rfl (fun h1 => ?_) (fun h1 => ?_)
  ·replace h1 : (decide (x1 < a2)) = true := h1;(try simp only [bB] at h1);refine qm (qb (ql (qb (qa [.p, .p] (sm rfl rfl (sa rfl rfl ?_))))));refine qc (ql (qu (γ := Nat) (fun g => ([(0, .osl 0 3 0 (N0)), (1, .g (G.int a1)), (2, .g (G.int a2)), (3, .g (ca3)), (8, .g (G.int x1)), (9, .g (G.int x1))], [(0, .arr 152 3 (List.map S151.c a0))])) (fun g => (0 : Nat) < g) (fun g => g) ⟨rfl, ((0 : Nat)) + 1, ⟨rfl, rfl, rfl, rfl, rfl, rfl, trivial⟩, ⟨rfl, trivial⟩, rfl, (Nat.lt_succ_self _), trivial⟩ ?_))
   ·rintro k3 hk2;replace hk2 : (0 : Nat) < k3 := hk2;obtain ⟨k3, rfl⟩ : ∃ m, k3 = m + 1 := ⟨k3 - 1, by omega⟩;refine qb (qb ?_);obtain ⟨y4, by4⟩ : ∃ z_, (bif decide (a1 < x1) then ixO a0 x1 else some default) = some z_ := (qap fun hq_ => xc (by simp only [bB] at hq_; omega) (by simp only [bB] at hq_; omega));obtain ⟨y5, by5⟩ : ∃ z_, (bif decide (a1 < x1) then ixO a0 (x1 - 1) else some default) = some z_ := (qap fun hq_ => xc (by simp only [bB] at hq_; omega) (by simp only [bB] at hq_; omega));obtain ⟨r6, br6⟩ : ∃ z_, (bif decide (a1 < x1) then a3 y4 y5 else some default) = some z_ := (qap fun hq_ => hU.ex (zl by4 hq_) (zl by5 hq_));refine z0 [.p, .p, .p, .p, .p, .p, .p, .p, .r, .p, .p, .p, .p, .r, .p, .p, .p] (by kernel_rfl) (sm rfl rfl (sm rfl rfl (su (jh rfl rfl rfl) rfl (sm rfl rfl (sg rfl rfl (fun h => qh rfl rfl) rfl (sg rfl rfl (fun h => qn rfl rfl) rfl ?_))))));refine sg rfl rfl (fun h => qh rfl rfl) rfl (sg rfl rfl (fun h => ji rfl Tryz.underlying25 km (gd h rfl) (gd h rfl) (zq (jb by4 h)) (Nat.lt_of_lt_of_eq (jj (qt (jb by4 h))) hN0)) rfl (qab rfl rfl rfl (kz _ _) (fun h => w6 (f := S151.c) (l := a0) (a := y4) rfl km (gd h rfl) rfl (qt (jb by4 h))) rfl ?_));refine sg rfl rfl (fun h => qn rfl rfl) rfl (sg rfl rfl (fun h => qh rfl rfl) rfl (sg rfl rfl (fun h => j9 rfl (gd h rfl) rfl iF) rfl (sg rfl rfl (fun h => ji rfl Tryz.underlying25 km (gd h rfl) (gd h rfl) (zq (jb by5 h)) (Nat.lt_of_lt_of_eq (jj (qt (jb by5 h))) hN0)) rfl (qab rfl rfl rfl (kz _ _) (fun h => w6 (f := S151.c) (l := a0) (a := y5) rfl km (gd h rfl) rfl (qt (jb by5 h))) rfl ?_))));refine sg rfl rfl (fun h => jv rfl ha3 Ka3 (gd h rfl) (Con.lend (Ha3 y4 y5 _ (jb br6 h))) (qd (gd h rfl) (qd (gd h rfl) qk))) rfl (sg rfl rfl (fun h => qy rfl (gd h rfl) rfl) rfl (su (zk rfl rfl rfl rfl) rfl (qc (qi _ rfl (fun h2 => ?_) (fun h2 => ?_)))))
    ·replace h2 : ((decide (a1 < x1)) && (decide (r6 < 0))) = true := h2;(try simp only [bB] at h2)
     exfalso; have c_ := decide_eq_true h2.1; have q_ := hU.ge (zl by4 c_) (zl by5 c_) (zl br6 c_) (by omega); omega
    ·replace h2 : ((decide (a1 < x1)) && (decide (r6 < 0))) = false := h2;(try simp only [bB] at h2);refine zc ?_;refine qa [.p, .p, .p] (sm rfl rfl (su (ze rfl rfl rfl iF) rfl (sa rfl rfl (qc ?_))));exact ⟨rfl, (k2, x1 + 1), ⟨rfl, rfl, rfl, rfl, rfl, trivial⟩, ⟨rfl, trivial⟩, rfl, ⟨iB, iB, iB⟩, by simp⟩
  ·refine zc ?_;show ResOk _ _ _ _ ∧ MemL _ _;exact ⟨res0 rfl, ⟨rfl, trivial⟩⟩
theorem qro {g : List (Nat × List Value)} (a0 : List S151) (a1 : Int) (a2 : Int) (a3 : Int) (a4 : S151 → S151 → Option Int) {N0 : Nat} (hN0 : List.length a0 = N0) {ca4 : G} {ia4 : FuncId} {ka4 : List G} (ha4 : FnIs ca4 ia4 ka4) (Ka4 : Known Tryz.prog ia4) (Ha4 : ∀ (x0 : S151) (x1 : S151) (r : Int), a4 x0 x1 = some r → Con (EG g) ia4 ([G.agg [G.str x0.Name, G.int x0.Moment, G.str x0.Kind], G.agg [G.str x1.Name, G.int x1.Moment, G.str x1.Kind]] ++ ka4) (G.int r)) (hA : 0 ≤ a1) (hB : a1 < a2) (hN : a2 < (a0.length : Int)) (hL : a0.length ≤ 63) (hU : UpC a0 a4)  : ConB (EG g) 260 [.osl 0 3 0 N0, .g (G.int a1), .g (G.int a2), .ptr 3 0, .g (ca4)] [(0, .arr 152 3 (List.map S151.c a0)), (3, .box [.g (G.int a3)])] (G.tup [G.int (((a1, a2, a0, a3) : Int × Int × (List S151) × Int).1), G.int (((a1, a2, a0, a3) : Int × Int × (List S151) × Int).2.1)]) [(0, .arr 152 3 (List.map S151.c (((a1, a2, a0, a3) : Int × Int × (List S151) × Int).2.2.1))), (3, .box [.g (G.int (((a1, a2, a0, a3) : Int × Int × (List S151) × Int).2.2.2))])] := by
 refine jd Tryz.func260 rfl rfl rfl fun w0 M0 x => ?_;refine kl (f := S151.c) (l := a0) 0 rfl fun hla0 => ?_;refine qb (qa [.p, .p] (sa rfl rfl (sa rfl rfl (qc (qb (qb ?_))))));obtain ⟨y1, by1⟩ : ∃ z_, (ixO a0 a2) = some z_ := (xc (by omega) (by omega));obtain ⟨y2, by2⟩ : ∃ z_, (ixO a0 a1) = some z_ := (xc (by omega) (by omega));obtain ⟨r3, br3⟩ : ∃ z_, (a4 y1 y2) = some z_ := (hU.ex by1 by2);refine z0 [.p, .p, .p, .p, .r, .p, .p, .p, .r, .p, .p] (by kernel_rfl) (sm rfl rfl (su (qn rfl rfl) rfl (sm rfl rfl (su (ji rfl Tryz.underlying25 km rfl rfl (zq by1) (Nat.lt_of_lt_of_eq (jj (qt by1)) hN0)) rfl (sr (w6 (f := S151.c) (l := a0) (a := y1) rfl km rfl rfl (qt by1)) rfl (su (qn rfl rfl) rfl ?_))))));refine sm rfl rfl (su (ji rfl Tryz.underlying25 km rfl rfl (zq by2) (Nat.lt_of_lt_of_eq (jj (qt by2)) hN0)) rfl (sr (w6 (f := S151.c) (l := a0) (a := y2) rfl km rfl rfl (qt by2)) rfl (su (jv rfl ha4 Ka4 rfl (Con.lend (Ha4 y1 y2 _ br3)) (qd rfl (qd rfl qk))) rfl (su (qy rfl rfl rfl) rfl (qc (qi _ rfl (fun h1 => ?_) (fun h1 => ?_)))))))
 ·replace h1 : (decide (r3 < 0)) = true := h1;(try simp only [bB] at h1)
  exfalso; have q_ := hU.ge by1 by2 br3 (by omega); omega
 ·replace h1 : (decide (r3 < 0)) = false := h1;(try simp only [bB] at h1);refine qm (qb (qa [.p, .p, .p, .p] (sm rfl rfl (sm rfl rfl (sa rfl rfl (sa rfl rfl ?_))))));refine qc (qo ?_);show ResOk _ _ _ _ ∧ MemL _ _;exact ⟨resN rfl ⟨rv_g rfl, rv_g rfl, trivial⟩ (by simp), ⟨rfl, rfl, trivial⟩⟩
theorem qub {g : List (Nat × List Value)} (a0 : List S151) (a1 : Int) (a2 : Int) (a3 : Int) (a4 : Int) (a5 : S151 → S151 → Option Int) {N0 : Nat} (hN0 : List.length a0 = N0) {ca5 : G} {ia5 : FuncId} {ka5 : List G} (ha5 : FnIs ca5 ia5 ka5) (Ka5 : Known Tryz.prog ia5) (Ha5 : ∀ (x0 : S151) (x1 : S151) (r : Int), a5 x0 x1 = some r → Con (EG g) ia5 ([G.agg [G.str x0.Name, G.int x0.Moment, G.str x0.Kind], G.agg [G.str x1.Name, G.int x1.Moment, G.str x1.Kind]] ++ ka5) (G.int r)) (hA : 0 ≤ a1) (hB : a1 < a2) (hC : a2 < a3) (hN : a3 < (a0.length : Int)) (hL : a0.length ≤ 63) (hU : UpC a0 a5)  : ConB (EG g) 256 [.osl 0 3 0 N0, .g (G.int a1), .g (G.int a2), .g (G.int a3), .ptr 4 0, .g (ca5)] [(0, .arr 152 3 (List.map S151.c a0)), (4, .box [.g (G.int a4)])] (G.int (((a2, a0, a4) : Int × (List S151) × Int).1)) [(0, .arr 152 3 (List.map S151.c (((a2, a0, a4) : Int × (List S151) × Int).2.1))), (4, .box [.g (G.int (((a2, a0, a4) : Int × (List S151) × Int).2.2))])] := by
 refine jd Tryz.func256 rfl rfl rfl fun w0 M0 x => ?_;refine kl (f := S151.c) (l := a0) 0 rfl fun hla0 => ?_;refine qb (qa [.p] (sa rfl rfl (qc (qb (qa [.p, .p, .p, .p, .p, .w, .p, .p, .p, .p, .p] (su (qn rfl rfl) rfl ?_))))));refine sm rfl rfl (sm rfl rfl (su (xh rfl rfl) rfl (sm rfl rfl (sw (vd [(0, 0), (3, 4)] rfl K260 rfl (ConB.lend (qro a0 a1 a2 a4 a5 hN0 ha5 Ka5 Ha5 (by omega) (by omega) (by omega) (by omega) hU)) (qq rfl rfl (qq rfl rfl (qq rfl rfl (qq rfl rfl (qq rfl rfl j5))))) ⟨⟨_, rfl, rfl, rfl⟩, ⟨_, rfl, rfl, rfl⟩, trivial⟩ rfl) rfl (sm rfl rfl (su (qr rfl rfl rfl) rfl ?_))))));refine su (qr rfl rfl rfl) rfl (sa rfl rfl (sa rfl rfl (qc (qb (qa [.p, .p, .p, .p, .p, .w, .p, .p, .p, .p, .p] (su (qn rfl rfl) rfl ?_))))));refine sm rfl rfl (sm rfl rfl (su (xh rfl rfl) rfl (sm rfl rfl (sw (vd [(0, 0), (3, 4)] rfl K260 rfl (ConB.lend (qro a0 a2 a3 a4 a5 hN0 ha5 Ka5 Ha5 (by omega) (by omega) (by omega) (by omega) hU)) (qq rfl rfl (qq rfl rfl (qq rfl rfl (qq rfl rfl (qq rfl rfl j5))))) ⟨⟨_, rfl, rfl, rfl⟩, ⟨_, rfl, rfl, rfl⟩, trivial⟩ rfl) rfl (sm rfl rfl (su (qr rfl rfl rfl) rfl ?_))))));refine su (qr rfl rfl rfl) rfl (sa rfl rfl (sa rfl rfl (qc (qb (qa [.p, .p, .p, .p, .p, .w, .p, .p, .p, .p, .p] (su (qn rfl rfl) rfl ?_))))));refine sm rfl rfl (sm rfl rfl (su (xh rfl rfl) rfl (sm rfl rfl (sw (vd [(0, 0), (3, 4)] rfl K260 rfl (ConB.lend (qro a0 a1 a2 a4 a5 hN0 ha5 Ka5 Ha5 (by omega) (by omega) (by omega) (by omega) hU)) (qq rfl rfl (qq rfl rfl (qq rfl rfl (qq rfl rfl (qq rfl rfl j5))))) ⟨⟨_, rfl, rfl, rfl⟩, ⟨_, rfl, rfl, rfl⟩, trivial⟩ rfl) rfl (sm rfl rfl (su (qr rfl rfl rfl) rfl ?_))))));refine su (qr rfl rfl rfl) rfl (sa rfl rfl (sa rfl rfl (qc (qb (qa [.p, .p] (sm rfl rfl ?_))))));refine sa rfl rfl (qc (qo ?_));show ResOk _ _ _ _ ∧ MemL _ _;exact ⟨zd rfl (rv_g rfl), ⟨rfl, rfl, trivial⟩⟩
theorem qrp {g : List (Nat × List Value)} (a0 : List S151) (a1 : Int) (a2 : Int) (a3 : S151 → S151 → Option Int) {N0 : Nat} (hN0 : List.length a0 = N0) {ca3 : G} {ia3 : FuncId} {ka3 : List G} (ha3 : FnIs ca3 ia3 ka3) (Ka3 : Known Tryz.prog ia3) (Ha3 : ∀ (x0 : S151) (x1 : S151) (r : Int), a3 x0 x1 = some r → Con (EG g) ia3 ([G.agg [G.str x0.Name, G.int x0.Moment, G.str x0.Kind], G.agg [G.str x1.Name, G.int x1.Moment, G.str x1.Kind]] ++ ka3) (G.int r)) (hA : 1 ≤ a1) (hN : a1 + 1 < (a0.length : Int)) (hL : a0.length ≤ 63) (hU : UpC a0 a3)  : ConB (EG g) 255 [.osl 0 3 0 N0, .g (G.int a1), .ptr 2 0, .g (ca3)] [(0, .arr 152 3 (List.map S151.c a0)), (2, .box [.g (G.int a2)])] (G.int (((a1, a0, a2) : Int × (List S151) × Int).1)) [(0, .arr 152 3 (List.map S151.c (((a1, a0, a2) : Int × (List S151) × Int).2.1))), (2, .box [.g (G.int (((a1, a0, a2) : Int × (List S151) × Int).2.2))])] := by
 refine jd Tryz.func255 rfl rfl rfl fun w0 M0 x => ?_;refine kl (f := S151.c) (l := a0) 0 rfl fun hla0 => ?_;refine qb (qa [.p] (sa rfl rfl (qc (qb (qa [.p, .p, .p, .p, .p, .p, .p, .p, .w, .p] (su (qn rfl rfl) rfl ?_))))));refine sm rfl rfl (su (j9 rfl rfl rfl iF) rfl (sm rfl rfl (sm rfl rfl (su (ze rfl rfl rfl iF) rfl (su (xh rfl rfl) rfl (sm rfl rfl ?_))))));refine sw (vd [(0, 0), (4, 2)] rfl K256 rfl (ConB.lend (qub a0 (a1 - 1) a1 (a1 + 1) a2 a3 hN0 ha3 Ka3 Ha3 (by omega) (by omega) (by omega) (by omega) (by omega) hU)) (qq rfl rfl (qq rfl rfl (qq rfl rfl (qq rfl rfl (qq rfl rfl (qq rfl rfl j5)))))) ⟨⟨_, rfl, rfl, rfl⟩, ⟨_, rfl, rfl, rfl⟩, trivial⟩ rfl) rfl (sa rfl rfl (qc (qo ?_)));show ResOk _ _ _ _ ∧ MemL _ _;exact ⟨zd rfl (rv_g rfl), ⟨rfl, rfl, trivial⟩⟩
theorem qwa {g : List (Nat × List Value)} (a0 : List S151) (a1 : Int) (a2 : Int) (a3 : S151 → S151 → Option Int) {N0 : Nat} (hN0 : List.length a0 = N0) {ca3 : G} {ia3 : FuncId} {ka3 : List G} (ha3 : FnIs ca3 ia3 ka3) (Ka3 : Known Tryz.prog ia3) (Ha3 : ∀ (x0 : S151) (x1 : S151) (r : Int), a3 x0 x1 = some r → Con (EG g) ia3 ([G.agg [G.str x0.Name, G.int x0.Moment, G.str x0.Kind], G.agg [G.str x1.Name, G.int x1.Moment, G.str x1.Kind]] ++ ka3) (G.int r)) (hA : 0 ≤ a1) (hG : 12 < a2 - a1) (hN : a2 ≤ (a0.length : Int)) (hL : a0.length ≤ 63) (hU : UpC a0 a3)  : ConB (EG g) 237 [.osl 0 3 0 N0, .g (G.int a1), .g (G.int a2), .g (ca3)] [(0, .arr 152 3 (List.map S151.c a0))] (G.tup [G.int (((pvt a1 a2, 1, a0) : Int × Int × (List S151)).1), G.int (((pvt a1 a2, 1, a0) : Int × Int × (List S151)).2.1)]) [(0, .arr 152 3 (List.map S151.c (((pvt a1 a2, 1, a0) : Int × Int × (List S151)).2.2)))] := by
 refine jd Tryz.func237 rfl rfl rfl fun w0 M0 x => ?_;refine kl (f := S151.c) (l := a0) 0 rfl fun hla0 => ?_
 have hw_ : IntKind.i64.wrap (Int.tdiv (a2 - a1) 4) = (a2 - a1) / 4 := by rw [Int.tdiv_eq_ediv_of_nonneg (by omega), wrap_i64 ⟨by omega, by omega⟩]
 refine qb (qa [.p, .p] (sa rfl rfl (sa rfl rfl (qc (qb (qa [.p, .p, .p, .p] ?_))))));refine sm rfl rfl (sm rfl rfl (su (j9 rfl rfl rfl iF) rfl (sa rfl rfl (qc (qb (qa [.w] ?_))))));refine sw (zn 11 rfl z3 rfl rfl) rfl (qc (qb (qa [.p, .p, .p, .p, .p, .p] (sm rfl rfl (sm rfl rfl (su (w4 rfl rfl rfl (by decide)) rfl ?_))))));refine su (qbb rfl rfl rfl iF) rfl (su (ze rfl rfl rfl iF) rfl (sa rfl rfl (qc (qb (qa [.p, .p, .p, .p, .p, .p] (sm rfl rfl ?_))))));refine sm rfl rfl (su (w4 rfl rfl rfl (by decide)) rfl (su (qbb rfl rfl rfl iF) rfl (su (ze rfl rfl rfl iF) rfl (sa rfl rfl (qc (qb ?_))))));refine qa [.p, .p, .p, .p, .p, .p] (sm rfl rfl (sm rfl rfl (su (w4 rfl rfl rfl (by decide)) rfl (su (qbb rfl rfl rfl iF) rfl (su (ze rfl rfl rfl iF) rfl (sa rfl rfl ?_))))));refine qc (qb (qb (qa [.p, .p] (sm rfl rfl (su (vi rfl rfl rfl) rfl (qc ?_))))));refine qi _ rfl (fun h1 => ?_) (fun h1 => ?_)
 ·replace h1 : (decide (8 ≤ a2 - a1)) = true := h1;(try simp only [bB] at h1);refine j6 (γ := Unit) (fun g => ([(0, .osl 0 3 0 (N0)), (3, .g (ca3)), (8, .g (G.int 0)), (9, .g (G.int 0)), (11, .ptr 11 0), (12, .g (G.int (a1 + ((IntKind.i64.wrap (Int.tdiv (a2 - a1) 4)) * 1)))), (13, .g (G.int (a1 + ((IntKind.i64.wrap (Int.tdiv (a2 - a1) 4)) * 2)))), (14, .g (G.int (a1 + ((IntKind.i64.wrap (Int.tdiv (a2 - a1) 4)) * 3))))], [(0, .arr 152 3 (List.map S151.c a0)), (11, .box [.g (G.int 0)])])) (fun g => True) ?_ ?_
  ·refine qb (qa [.p, .p] (sm rfl rfl (su (vi rfl rfl rfl) rfl (qc (qi _ rfl (fun h3 => ?_) (fun h3 => ?_))))))
   ·replace h3 : (decide (50 ≤ a2 - a1)) = true := h3;(try simp only [bB] at h3);refine qb (qa [.p, .p, .p, .w, .p] (su (qn rfl rfl) rfl (sm rfl rfl (sm rfl rfl (sw (vd [(0, 0), (2, 11)] rfl K255 rfl (ConB.lend (qrp a0 (a1 + ((IntKind.i64.wrap (Int.tdiv (a2 - a1) 4)) * 1)) 0 a3 hN0 ha3 Ka3 Ha3 (by omega) (by omega) (by omega) hU)) (qq rfl rfl (qq rfl rfl (qq rfl rfl (qq rfl rfl j5)))) ⟨⟨_, rfl, rfl, rfl⟩, ⟨_, rfl, rfl, rfl⟩, trivial⟩ rfl) rfl (sa rfl rfl ?_))))));refine qc (qb (qa [.p, .p, .p, .w, .p] (su (qn rfl rfl) rfl (sm rfl rfl (sm rfl rfl (sw (vd [(0, 0), (2, 11)] rfl K255 rfl (ConB.lend (qrp a0 (a1 + ((IntKind.i64.wrap (Int.tdiv (a2 - a1) 4)) * 2)) 0 a3 hN0 ha3 Ka3 Ha3 (by omega) (by omega) (by omega) hU)) (qq rfl rfl (qq rfl rfl (qq rfl rfl (qq rfl rfl j5)))) ⟨⟨_, rfl, rfl, rfl⟩, ⟨_, rfl, rfl, rfl⟩, trivial⟩ rfl) rfl ?_))))));refine sa rfl rfl (qc (qa [.p, .p, .p, .w, .p] (su (qn rfl rfl) rfl (sm rfl rfl (sm rfl rfl (sw (vd [(0, 0), (2, 11)] rfl K255 rfl (ConB.lend (qrp a0 (a1 + ((IntKind.i64.wrap (Int.tdiv (a2 - a1) 4)) * 3)) 0 a3 hN0 ha3 Ka3 Ha3 (by omega) (by omega) (by omega) hU)) (qq rfl rfl (qq rfl rfl (qq rfl rfl (qq rfl rfl j5)))) ⟨⟨_, rfl, rfl, rfl⟩, ⟨_, rfl, rfl, rfl⟩, trivial⟩ rfl) rfl ?_))))));refine sa rfl rfl (qc ?_);exact ⟨rfl, (), ⟨rfl, rfl, rfl, rfl, rfl, rfl, rfl, rfl, trivial⟩, ⟨rfl, rfl, trivial⟩, rfl, trivial, trivial⟩
   ·refine qm ?_;exact ⟨rfl, (), ⟨rfl, rfl, rfl, rfl, rfl, rfl, rfl, rfl, trivial⟩, ⟨rfl, rfl, trivial⟩, rfl, trivial, trivial⟩
  ·rintro ⟨⟩ _;refine qa [.p, .p, .p, .p, .p, .w, .p] (su (qn rfl rfl) rfl (sm rfl rfl (sm rfl rfl (sm rfl rfl (sm rfl rfl (sw (vd [(0, 0), (4, 11)] rfl K256 rfl (ConB.lend (qub a0 (a1 + ((IntKind.i64.wrap (Int.tdiv (a2 - a1) 4)) * 1)) (a1 + ((IntKind.i64.wrap (Int.tdiv (a2 - a1) 4)) * 2)) (a1 + ((IntKind.i64.wrap (Int.tdiv (a2 - a1) 4)) * 3)) 0 a3 hN0 ha3 Ka3 Ha3 (by omega) (by omega) (by omega) (by omega) (by omega) hU)) (qq rfl rfl (qq rfl rfl (qq rfl rfl (qq rfl rfl (qq rfl rfl (qq rfl rfl j5)))))) ⟨⟨_, rfl, rfl, rfl⟩, ⟨_, rfl, rfl, rfl⟩, trivial⟩ rfl) rfl ?_))))));refine sa rfl rfl (qc (qb (qa [.r] (sr (zx rfl ty3 rfl rfl rfl) rfl (qc (ql ?_))))));refine qb (qa [.p, .p] (su (jk rfl rfl rfl) rfl (sa rfl rfl (qc (qi _ rfl (fun h2 => ?_) (fun h2 => ?_))))))
   ·replace h2 : (decide ((0 : Int) = 0)) = true := h2;(try simp only [bB] at h2);refine qb (qa [.p, .p, .p] (sm rfl rfl (sa rfl rfl (sa rfl rfl (qc (qo ?_))))));show ResOk _ _ _ _ ∧ MemL _ _;exact ⟨resN rfl ⟨rv_g rfl, rv_g rfl, trivial⟩ (by simp), ⟨rfl, trivial⟩⟩
   ·replace h2 : (decide ((0 : Int) = 0)) = false := h2
    exfalso; exact absurd h2 (by decide)
 ·replace h1 : (decide (8 ≤ a2 - a1)) = false := h1;(try simp only [bB] at h1)
  exfalso; omega
theorem qwb {g : List (Nat × List Value)} (a0 : List S151) (a1 : Int) (a2 : Int) (a3 : S151 → S151 → Option Int) {N0 : Nat} (hN0 : List.length a0 = N0) {ca3 : G} {ia3 : FuncId} {ka3 : List G} (ha3 : FnIs ca3 ia3 ka3) (Ka3 : Known Tryz.prog ia3) (Ha3 : ∀ (x0 : S151) (x1 : S151) (r : Int), a3 x0 x1 = some r → Con (EG g) ia3 ([G.agg [G.str x0.Name, G.int x0.Moment, G.str x0.Kind], G.agg [G.str x1.Name, G.int x1.Moment, G.str x1.Kind]] ++ ka3) (G.int r)) (hA : 0 ≤ a1) (hG : 12 < a2 - a1) (hN : a2 ≤ (a0.length : Int)) (hL : a0.length ≤ 63) (hU : UpC a0 a3)  : ConB (EG g) 239 [.osl 0 3 0 N0, .g (G.int a1), .g (G.int a2), .g (ca3)] [(0, .arr 152 3 (List.map S151.c a0))] (G.bool (((true, a0) : Bool × (List S151)).1)) [(0, .arr 152 3 (List.map S151.c (((true, a0) : Bool × (List S151)).2)))] := by
 refine jd Tryz.func239 rfl rfl rfl fun w0 M0 x => ?_;refine kl (f := S151.c) (l := a0) 0 rfl fun hla0 => ?_;refine qb (qa [.p] (sa rfl rfl (qc (qb (qa [.p, .p, .p] (sm rfl rfl ?_))))));refine su (ze rfl rfl rfl iF) rfl (sa rfl rfl (qc (qb (qb (qa [.p] (sa rfl rfl ?_))))));refine qc (ql (qu (γ := Nat) (fun g => ([(0, .osl 0 3 0 (N0)), (2, .g (G.int a2)), (3, .g (ca3)), (8, .g (G.bool false)), (9, .g (G.int (a1 + 1))), (10, .g (G.int 0))], [(0, .arr 152 3 (List.map S151.c a0))])) (fun g => (0 : Nat) < g) (fun g => g) ⟨rfl, ((0 : Nat)) + 1, ⟨rfl, rfl, rfl, rfl, rfl, rfl, trivial⟩, ⟨rfl, trivial⟩, rfl, (Nat.lt_succ_self _), trivial⟩ ?_))
 ·rintro k1 hk1;replace hk1 : (0 : Nat) < k1 := hk1;obtain ⟨k1, rfl⟩ : ∃ m, k1 = m + 1 := ⟨k1 - 1, by omega⟩;refine qb (qb (qa [.p, .p] (sm rfl rfl (su (qy rfl rfl rfl) rfl (qc (qi _ rfl (fun h1 => ?_) (fun h1 => ?_)))))))
  ·replace h1 : (decide ((0 : Int) < 5)) = true := h1;(try simp only [bB] at h1);refine qm (qb (ql (qb (ql (qu (γ := Nat × Int) (fun g => ([(0, .osl 0 3 0 (N0)), (2, .g (G.int a2)), (3, .g (ca3)), (8, .g (G.bool false)), (9, .g (G.int g.2))], [(0, .arr 152 3 (List.map S151.c a0))])) (fun g => (a2 - g.2).toNat < g.1 ∧ a1 < g.2 ∧ g.2 ≤ a2) (fun g => g.1) ⟨rfl, (((a2 - (a1 + 1)).toNat) + 1, a1 + 1), ⟨rfl, rfl, rfl, rfl, rfl, trivial⟩, ⟨rfl, trivial⟩, rfl, ⟨Nat.lt_succ_self _, iD, iD⟩, trivial⟩ ?_)))))
   ·rintro ⟨k3, x2⟩ ⟨hk2, iv2_0, iv2_1⟩;replace hk2 : (a2 - x2).toNat < k3 := hk2;replace iv2_0 : a1 < x2 := iv2_0;replace iv2_1 : x2 ≤ a2 := iv2_1;obtain ⟨k3, rfl⟩ : ∃ m, k3 = m + 1 := ⟨k3 - 1, by omega⟩;refine qb (qb ?_);obtain ⟨y4, by4⟩ : ∃ z_, (bif decide (x2 < a2) then ixO a0 x2 else some default) = some z_ := (qap fun hq_ => xc (by simp only [bB] at hq_; omega) (by simp only [bB] at hq_; omega));obtain ⟨y5, by5⟩ : ∃ z_, (bif decide (x2 < a2) then ixO a0 (x2 - 1) else some default) = some z_ := (qap fun hq_ => xc (by simp only [bB] at hq_; omega) (by simp only [bB] at hq_; omega));obtain ⟨r6, br6⟩ : ∃ z_, (bif decide (x2 < a2) then a3 y4 y5 else some default) = some z_ := (qap fun hq_ => hU.ex (zl by4 hq_) (zl by5 hq_));refine z0 [.p, .p, .p, .p, .p, .p, .p, .p, .r, .p, .p, .p, .p, .r, .p, .p, .p, .p] (by kernel_rfl) (sm rfl rfl (sm rfl rfl (su (qy rfl rfl rfl) rfl (sm rfl rfl (sg rfl rfl (fun h => qh rfl rfl) rfl (sg rfl rfl (fun h => qn rfl rfl) rfl ?_))))));refine sg rfl rfl (fun h => qh rfl rfl) rfl (sg rfl rfl (fun h => ji rfl Tryz.underlying25 km (gd h rfl) (gd h rfl) (zq (jb by4 h)) (Nat.lt_of_lt_of_eq (jj (qt (jb by4 h))) hN0)) rfl (qab rfl rfl rfl (kz _ _) (fun h => w6 (f := S151.c) (l := a0) (a := y4) rfl km (gd h rfl) rfl (qt (jb by4 h))) rfl ?_));refine sg rfl rfl (fun h => qn rfl rfl) rfl (sg rfl rfl (fun h => qh rfl rfl) rfl (sg rfl rfl (fun h => j9 rfl (gd h rfl) rfl iF) rfl (sg rfl rfl (fun h => ji rfl Tryz.underlying25 km (gd h rfl) (gd h rfl) (zq (jb by5 h)) (Nat.lt_of_lt_of_eq (jj (qt (jb by5 h))) hN0)) rfl (qab rfl rfl rfl (kz _ _) (fun h => w6 (f := S151.c) (l := a0) (a := y5) rfl km (gd h rfl) rfl (qt (jb by5 h))) rfl ?_))));refine sg rfl rfl (fun h => jv rfl ha3 Ka3 (gd h rfl) (Con.lend (Ha3 y4 y5 _ (jb br6 h))) (qd (gd h rfl) (qd (gd h rfl) qk))) rfl (sg rfl rfl (fun h => qy rfl (gd h rfl) rfl) rfl (sg rfl rfl (fun h => kh rfl (gd h rfl)) rfl (su (zk rfl rfl rfl rfl) rfl (qc (qi _ rfl (fun h2 => ?_) (fun h2 => ?_))))))
    ·replace h2 : ((decide (x2 < a2)) && (!(decide (r6 < 0)))) = true := h2;(try simp only [bB] at h2);refine qm (ql (qa [.p, .p, .p] (sm rfl rfl (su (ze rfl rfl rfl iF) rfl (sa rfl rfl (qc ?_))))));exact ⟨rfl, (k3, x2 + 1), ⟨rfl, rfl, rfl, rfl, rfl, trivial⟩, ⟨rfl, trivial⟩, rfl, ⟨iB, iB, iB⟩, by simp⟩
    ·replace h2 : ((decide (x2 < a2)) && (!(decide (r6 < 0)))) = false := h2;(try simp only [bB] at h2);refine zc ?_;refine qb (qb (qa [.p, .p, .p] (sm rfl rfl (sm rfl rfl (su (jk rfl rfl rfl) rfl (qc ?_))))));refine qi _ rfl (fun h3 => ?_) (fun h3 => ?_)
     ·refine qb (qa [.p] (sa rfl rfl (qc (qo ?_))));show ResOk _ _ _ _ ∧ MemL _ _;exact ⟨zd rfl (rv_g rfl), ⟨rfl, trivial⟩⟩
     ·replace h3 : (decide (x2 = a2)) = false := h3;(try simp only [bB] at h3)
      exfalso; exact qmd hU by4 by5 br6 (by omega) h2 h3
  ·replace h1 : (decide ((0 : Int) < 5)) = false := h1
   exfalso; exact absurd h1 (by decide)
theorem qwc {g : List (Nat × List Value)} (a0 : List S151) (a1 : Int) (a2 : Int) (a3 : Int) (a4 : S151 → S151 → Option Int) {N0 : Nat} (hN0 : List.length a0 = N0) {ca4 : G} {ia4 : FuncId} {ka4 : List G} (ha4 : FnIs ca4 ia4 ka4) (Ka4 : Known Tryz.prog ia4) (Ha4 : ∀ (x0 : S151) (x1 : S151) (r : Int), a4 x0 x1 = some r → Con (EG g) ia4 ([G.agg [G.str x0.Name, G.int x0.Moment, G.str x0.Kind], G.agg [G.str x1.Name, G.int x1.Moment, G.str x1.Kind]] ++ ka4) (G.int r)) (hA : 0 ≤ a1) (hA2 : a1 ≤ 63) (hB : a2 ≤ (a0.length : Int)) (hl : 12 < a2 - a1 → a3 ≠ 0) (hm : 0 ≤ a2) (hL : a0.length ≤ 63) (hU : UpC a0 a4)  : ConB (EG g) 205 [.osl 0 3 0 N0, .g (G.int a1), .g (G.int a2), .g (G.int a3), .g (ca4)] [(0, .arr 152 3 (List.map S151.c a0))] (G.tup []) [(0, .arr 152 3 (List.map S151.c (a0 : List S151)))] := by
 refine jd Tryz.func205 rfl rfl rfl fun w0 M0 x => ?_;refine kl (f := S151.c) (l := a0) 0 rfl fun hla0 => ?_;refine qb (qa [.p] (sa rfl rfl (qc (qb (qa [.p] (sa rfl rfl ?_))))));refine qc (ql (qu (γ := Nat) (fun g => ([(0, .osl 0 3 0 (N0)), (1, .g (G.int a1)), (2, .g (G.int a2)), (3, .g (G.int a3)), (4, .g (ca4)), (10, .g (G.bool true)), (11, .g (G.bool true))], [(0, .arr 152 3 (List.map S151.c a0))])) (fun g => (0 : Nat) < g) (fun g => g) ⟨rfl, ((0 : Nat)) + 1, ⟨rfl, rfl, rfl, rfl, rfl, rfl, rfl, trivial⟩, ⟨rfl, trivial⟩, rfl, (Nat.lt_succ_self _), trivial⟩ ?_))
 ·rintro k1 hk1;replace hk1 : (0 : Nat) < k1 := hk1;obtain ⟨k1, rfl⟩ : ∃ m, k1 = m + 1 := ⟨k1 - 1, by omega⟩;refine ql (qb (qa [.p, .p, .p, .p] (sm rfl rfl (sm rfl rfl (su (j9 rfl rfl rfl iF) rfl (sa rfl rfl ?_))))));refine qc (qb (qb (qa [.p, .p] (sm rfl rfl (su (vq rfl rfl rfl) rfl (qc ?_))))));refine qi _ rfl (fun h1 => ?_) (fun h1 => ?_)
  ·replace h1 : (decide (a2 - a1 ≤ 12)) = true := h1;(try simp only [bB] at h1);refine qb (qa [.p, .p, .p, .p, .w] (su (qn rfl rfl) rfl (sm rfl rfl (sm rfl rfl (sm rfl rfl (sw (z8 0 0 rfl K234 rfl (ConB.lend (qv9 a0 a1 a2 a4 hN0 ha4 Ka4 Ha4 (by omega) (by omega) (by omega) (by omega) hU)) (qq rfl rfl (qq rfl rfl (qq rfl rfl (qq rfl rfl j5)))) rfl rfl rfl) rfl ?_))))));refine qc (qo ?_);show ResOk _ _ _ _ ∧ MemL _ _;exact ⟨res0 rfl, ⟨rfl, trivial⟩⟩
  ·replace h1 : (decide (a2 - a1 ≤ 12)) = false := h1;(try simp only [bB] at h1);refine qm (qb (qb (qa [.p, .p] (sm rfl rfl (su (jk rfl rfl rfl) rfl (qc ?_))))));refine qi _ rfl (fun h2 => ?_) (fun h2 => ?_)
   ·replace h2 : (decide (a3 = 0)) = true := h2;(try simp only [bB] at h2)
    exfalso; omega
   ·replace h2 : (decide (a3 = 0)) = false := h2;(try simp only [bB] at h2);refine qm (qb (qb (qa [.p, .p] (sm rfl rfl (su (kh rfl rfl) rfl (qc ?_))))));refine qi _ rfl (fun h3 => ?_) (fun h3 => ?_)
    ·replace h3 : (!true) = true := h3
     exfalso; exact absurd h3 (by decide)
    ·replace h3 : (!true) = false := h3;(try simp only [bB] at h3);refine qm (qb (qa [.p, .p, .p, .p, .w, .p, .p, .p, .p, .p] (su (qn rfl rfl) rfl (sm rfl rfl (sm rfl rfl (sm rfl rfl ?_))))));refine sw (z8 0 0 rfl K237 rfl (ConB.lend (qwa a0 a1 a2 a4 hN0 ha4 Ka4 Ha4 (by omega) (by omega) (by omega) (by omega) hU)) (qq rfl rfl (qq rfl rfl (qq rfl rfl (qq rfl rfl j5)))) rfl rfl rfl) rfl (sm rfl rfl (su (qr rfl rfl rfl) rfl (su (qr rfl rfl rfl) rfl (sa rfl rfl (sa rfl rfl (qc ?_))))));refine qb (qb (qa [.p, .p] (sm rfl rfl (su (jk rfl rfl rfl) rfl (qc (qi _ rfl (fun h4 => ?_) (fun h4 => ?_)))))))
     ·replace h4 : (decide ((1 : Int) = 2)) = true := h4
      exfalso; exact absurd h4 (by decide)
     ·replace h4 : (decide ((1 : Int) = 2)) = false := h4;(try simp only [bB] at h4);refine qm (qb (qb (qa [.p, .p, .p, .p, .p, .p, .p, .p] (sm rfl rfl (sm rfl rfl (sg rfl rfl (fun h => qh rfl rfl) rfl ?_))))));refine su (zk (v := .bool false) rfl rfl rfl rfl) rfl (sm rfl rfl (sg rfl rfl (fun h => qh rfl rfl) rfl (sg rfl rfl (fun h => jk rfl (gd (y := undefT) h rfl) rfl) rfl (su (zk (v := .bool false) rfl rfl rfl rfl) rfl (qc (qi _ rfl (fun h5 => ?_) (fun h5 => ?_)))))))
      ·replace h5 : ((true && true) && (decide ((1 : Int) = 1))) = true := h5;(try simp only [bB] at h5);refine qb (qa [.p, .p, .p, .p, .w] (su (qn rfl rfl) rfl (sm rfl rfl (sm rfl rfl (sm rfl rfl (sw (z8 0 0 rfl K239 rfl (ConB.lend (qwb a0 a1 a2 a4 hN0 ha4 Ka4 Ha4 (by omega) (by omega) (by omega) (by omega) hU)) (qq rfl rfl (qq rfl rfl (qq rfl rfl (qq rfl rfl j5)))) rfl rfl rfl) rfl ?_))))));refine qc (qi _ rfl (fun h6 => ?_) (fun h6 => ?_))
       ·refine qo ?_;show ResOk _ _ _ _ ∧ MemL _ _;exact ⟨res0 rfl, ⟨rfl, trivial⟩⟩
       ·replace h6 : (true) = false := h6
        exfalso; exact absurd h6 (by decide)
      ·replace h5 : ((true && true) && (decide ((1 : Int) = 1))) = false := h5
       exfalso; exact absurd h5 (by decide)
theorem qvy (a0 : List S151) (a1 : S151 → S151 → Option Int) {N0 : Nat} (hN0 : List.length a0 = N0) {ca1 : G} {ia1 : FuncId} {ka1 : List G} (ha1 : FnIs ca1 ia1 ka1) (Ka1 : Known Tryz.prog ia1) (Ha1 : ∀ (x0 : S151) (x1 : S151) (r : Int), a1 x0 x1 = some r → Con (EG glT) ia1 ([G.agg [G.str x0.Name, G.int x0.Moment, G.str x0.Kind], G.agg [G.str x1.Name, G.int x1.Moment, G.str x1.Kind]] ++ ka1) (G.int r)) (hL : a0.length ≤ 63) (hU : UpC a0 a1)  : ConB (EG glT) 174 [.osl 0 3 0 N0, .g (ca1)] [(0, .arr 152 3 (List.map S151.c a0))] (G.tup []) [(0, .arr 152 3 (List.map S151.c (a0 : List S151)))] := by
 refine jd Tryz.func174 rfl rfl rfl fun w0 M0 x => ?_;refine kl (f := S151.c) (l := a0) 0 rfl fun hla0 => ?_;refine qb (qa [.p, .p, .p] (su (qn rfl rfl) rfl (su (qb9 hN0 rfl Tryz.underlying25 rfl) rfl (sa rfl rfl (qc (qa [.p, .p, .p, .p, .p, .p, .w] ?_))))));refine su (qn rfl rfl) rfl (sm rfl rfl (sm rfl rfl (su (wl rfl Tryz.underlying3 Tryz.underlying257 rfl (by omega) (by omega)) rfl (su (qf rfl K182 rfl (Con.lend (qv8 (List.length a0 : Int) (by omega) (by omega))) (qd rfl qk)) rfl (sm rfl rfl (sw (z8 0 0 rfl K205 rfl (ConB.lend (qwc a0 0 (List.length a0 : Int) (lenX (List.length a0 : Int)) a1 hN0 ha1 Ka1 Ha1 (by omega) (by omega) (Int.le_refl _) (fun h_ => qrn (by omega)) (by omega) hL hU)) (qq rfl rfl (qq rfl rfl (qq rfl rfl (qq rfl rfl (qq rfl rfl j5))))) rfl rfl rfl) rfl ?_))))));refine qc ?_;show ResOk _ _ _ _ ∧ MemL _ _;exact ⟨res0 rfl, ⟨rfl, trivial⟩⟩
theorem qp9 {a0 : List S151} {a1 : S151 → S151 → Option Int} {R : List S151} (h : s174 a0 a1 = some R) : R.length = a0.length := by
 unfold s174 at h;obtain ⟨y1, h1, h⟩ := qj h
 cases h
 exact qua h1
end Go.Sim
set_option maxRecDepth 10000
namespace Go.Sim
open Go.Proofs
def s166 (a0 : S154) (a1 : S154) : Int :=
 (s167 a0.Slot a1.Slot)
def s204 (a0 : Int) (a1 : Int) (a2 : List S151) : Option Int :=
 bindO (ixO a2 a0) fun y1 => bindO (ixO a2 a1) fun y2 => some (s167 y1.Moment y2.Moment)
theorem c204 {g : List (Nat × List Value)} (a0 : Int) (a1 : Int) (a2 : List S151) {R : Int}   (hR : s204 a0 a1 a2 = some R) : Con (EG g) 204 [G.int a0, G.int a1, G.ref [G.sl 3 (List.map S151.c a2)]] (G.int R) := by
 unfold s204 at hR;refine qp Tryz.func204 rfl rfl fun w0 M0 => ?_;refine qb (qa [.p] (sa rfl rfl (qc (qb ?_))));obtain ⟨y1, by1, hR⟩ := qj hR;obtain ⟨y2, by2, hR⟩ := qj hR;refine z0 [.p, .p, .p, .p, .p, .p, .p, .p, .p, .p, .p, .p] (by kernel_rfl) (su (qg rfl ty25 rfl) rfl (sm rfl rfl (su (zu (f := S151.c) (l := a2) (a := y1) rfl Tryz.underlying25 km rfl rfl (zq by1) (qt by1)) rfl (su (qe rfl v9 rfl) rfl (su (qg rfl ty3 rfl) rfl (su (qg rfl ty25 rfl) rfl ?_))))));refine sm rfl rfl (su (zu (f := S151.c) (l := a2) (a := y2) rfl Tryz.underlying25 km rfl rfl (zq by2) (qt by2)) rfl (su (qe rfl v9 rfl) rfl (su (qg rfl ty3 rfl) rfl (su (qf rfl K167 rfl (c167 y1.Moment y2.Moment) (qd rfl (qd rfl qk))) rfl (sa rfl rfl (qc ?_))))));refine qo ?_;obtain rfl := Option.some.inj hR;exact zd rfl (rv_g rfl)
def s168_l1 (a0 : List S151) : List S151 → Nat → (List Int) → Option (List Int)
 | [], k4, x2 => bindO (s203 x2 (fun x0 x1 => s204 x0 x1 a0)) fun r7 => some r7
 | y5 :: t6, k4, x2 => bindO (ixO x2 ((k4 : Nat) : Int)) fun y8 => s168_l1 a0 t6 (k4 + 1) (List.set x2 (Int.toNat ((k4 : Nat) : Int)) ((k4 : Nat) : Int))
def s168 (a0 : List S151) : Option (List Int) :=
 s168_l1 a0 a0 0 (List.replicate (List.length a0) 0)
theorem n168 {g : List (Nat × List Value)} (a0 : List S151) {R : List Int}  (hb0 : a0.length ≤ 12) (hR : s168 a0 = some R) : ConN (EG g) 168 [G.sl 3 (List.map S151.c a0)] 3 1 (List.map cInt R) := by
 unfold s168 at hR;refine vk Tryz.func168 rfl rfl fun w0 M0 => ?_;refine zp (f := S151.c) (l := a0) 0 rfl fun hla0 => ?_;refine qb (qa [.p, .w] (su (zo rfl rfl) rfl (sw (jq 2 3 1 rfl rfl rfl) rfl (qc (qb (qa [.p, .p, .w, .p] ?_))))));refine su (qg rfl ty25 rfl) rfl (su (qz (f := S151.c) (l := a0) rfl Tryz.underlying25 rfl) rfl (sw (qcb (f := cInt) (z := 0) 7 rfl mk82 rfl rfl rfl (by first | exact Int.le_refl _ | omega) (by first | decide | omega) rfl rfl rfl) rfl (su (zh rfl rfl) rfl (qc (qb (qb ?_))))));refine qa [.p, .p, .p] (su (qg rfl ty25 rfl) rfl (su (qz (f := S151.c) (l := a0) rfl Tryz.underlying25 rfl) rfl (sm rfl rfl (qc (ql (qu (γ := Nat × (List S151) × (List Int)) (fun g => ([(1, .g (G.ref [G.sl 3 (List.map S151.c a0)])), (3, .osl 7 1 0 (List.length a0)), (9, .g (G.int (List.length a0 : Int))), (10, .g (G.int ((g.1 : Nat) : Int)))], [(7, .arr 3 1 (List.map cInt g.2.2))])) (fun g => List.length g.2.2 = List.length a0 ∧ a0.drop g.1 = g.2.1 ∧ s168_l1 a0 g.2.1 g.1 g.2.2 = some R) (fun g => List.length g.2.1) ⟨rfl, (0, a0, List.replicate (List.length a0) 0), ⟨rfl, rfl, rfl, rfl, trivial⟩, ⟨rfl, trivial⟩, rfl, ⟨List.length_replicate, rfl, hR⟩, trivial⟩ ?_))))))
 ·rintro ⟨k4, t6, x2⟩ ⟨ln3, hd, hR⟩;replace hd : a0.drop k4 = t6 := hd;replace hR : s168_l1 a0 t6 k4 x2 = some R := hR;replace ln3 : List.length x2 = List.length a0 := ln3;refine qb (qa [.p] (su (qy rfl rfl rfl) rfl (qc (qb (qi _ rfl (fun h1 => ?_) (fun h1 => ?_))))))
  ·replace h1 : (decide (((k4 : Nat) : Int) < (List.length a0 : Int))) = true := h1;obtain ⟨y5, t6, rfl, hx1, hd⟩ := zm hd (decT h1);replace h1 := decT h1;rw [s168_l1] at hR;(try dsimp only at hR);refine qm (qb (ql (qb (qa [.p, .p] (sm rfl rfl (sa rfl rfl ?_))))));refine qc ?_;obtain ⟨y8, by8, hR⟩ := qj hR;refine qa [.p, .p, .p, .p, .w] (su (qn rfl rfl) rfl (sm rfl rfl (sm rfl rfl (su (ji rfl Tryz.underlying82 ty3 rfl rfl (zq by8) (Nat.lt_of_lt_of_eq (jj (qt by8)) ln3)) rfl (js rfl rfl (xd (f := cInt) (l := x2) (a' := ((k4 : Nat) : Int)) rfl ty3 rfl rfl rfl (Nat.lt_of_lt_of_eq (Nat.lt_of_lt_of_eq (jj (qt by8)) ln3) (Eq.symm ln3)) rfl (fun _ => rfl)) (qc ?_))))));refine qa [.p, .p] (su (ze rfl rfl rfl iE) rfl (sm rfl rfl (qc ?_)));exact ⟨rfl, (k4 + 1, t6, List.set x2 (Int.toNat ((k4 : Nat) : Int)) ((k4 : Nat) : Int)), ⟨rfl, rfl, rfl, rfl, trivial⟩, ⟨rfl, trivial⟩, rfl, ⟨((List.length_set ..).trans ln3), hd, hR⟩, by simp⟩
  ·replace h1 : (decide (((k4 : Nat) : Int) < (List.length a0 : Int))) = false := h1;obtain rfl := zz hd (decF h1);rw [s168_l1] at hR;refine zc ?_;refine qb ?_;obtain ⟨r7, br7, hR⟩ := qj hR;refine qa [.p, .p, .w] (su (qn rfl rfl) rfl (su (xi rfl rfl rfl) rfl (sw (z8 0 7 rfl K203 rfl (c203 x2 (fun x0 x1 => s204 x0 x1 a0) ln3 qb5 K204 (fun x0 x1 r_ h_ => c204 x0 x1 a0 h_) iA br7) (qq rfl rfl (qq rfl rfl j5)) rfl rfl rfl) rfl (qc (qb (qa [.p, .p] ?_))))));refine su (qn rfl rfl) rfl (su (zh rfl rfl) rfl (qc (qo ?_)));obtain rfl := Option.some.inj hR;exact v5 rfl rfl rfl ((List.length_map ..).trans ((ql2 br7).trans ln3))
theorem qja (a0 : List S151) : ∀ (l : List S151) (k : Nat) (x r : List Int), s168_l1 a0 l k x = some r → r.length = x.length
 | [], k, x, r, h => by
  rw [s168_l1] at h;obtain ⟨y, h1, h⟩ := qj h
  cases h
  exact ql2 h1
 | y :: l, k, x, r, h => by
  rw [s168_l1] at h;obtain ⟨z, h1, h⟩ := qj h;have := qja a0 l _ _ _ h
  simpa using this
theorem qp5 {a0 : List S151} {r : List Int} (h : s168 a0 = some r) : r.length = a0.length := by
 have := qja a0 _ _ _ _ h
 simpa using this
end Go.Sim
set_option maxRecDepth 10000
namespace Go.Sim
open Go.Proofs
def s114 (a0 : List S154) : Option (List S154) :=
 bindO (s165 (copyL (List.replicate (List.length a0) (S154.mk 0 0)) a0) (fun x0_ x1_ => some (s166 x0_ x1_))) fun r1 => some r1
def s142 (a0 : S23) (a1 : S151) (a2 : S151) : Bool :=
 ((eqAnd [decide (a2.Name = a1.Name), decide (a2.Moment = a2.Moment), decide (a2.Kind = a1.Kind)]) && (decide (IntKind.i64.wrap (a1.Moment - a0.Before) ≤ a2.Moment))) && (decide (a2.Moment ≤ IntKind.i64.wrap (a1.Moment + a0.After)))
theorem c142 {g : List (Nat × List Value)} (a0 : S23) (a1 : S151) (a2 : S151)    : Con (EG g) 142 [G.agg [G.int a0.Before, G.int a0.After, G.int a0.Notice, G.int a0.Share, G.sl 1 (List.map cStr a0.Causes), G.int a0.Off, G.int a0.Run], G.agg [G.str a1.Name, G.int a1.Moment, G.str a1.Kind], G.agg [G.str a2.Name, G.int a2.Moment, G.str a2.Kind]] (G.bool (s142 a0 a1 a2)) := by
 generalize hR : s142 a0 a1 a2 = R;unfold s142 at hR;refine qp Tryz.func142 rfl rfl fun w0 M0 => ?_;refine qb (qa [.p, .p, .p, .p] (su (zo rfl rfl) rfl (su (zo rfl rfl) rfl (su (zo rfl rfl) rfl (sa rfl rfl (qc ?_))))));refine qb (qa [.p, .p, .p, .p, .p, .p, .p, .w, .w] (su (qe rfl qck rfl) rfl (su (qg rfl ty9 rfl) rfl (su (qe rfl v9 rfl) rfl (su (qg rfl ty3 rfl) rfl (su (qe rfl qhw rfl) rfl ?_))))));refine su (qg rfl ty9 rfl) rfl (su (jc rfl z152 rfl quc (zi rfl (zi rfl (zi rfl kp))) rfl) rfl (sw (zn 7 rfl z152 rfl rfl) rfl (js rfl rfl (zb (tv := .g (G.agg [G.str a1.Name, G.int a2.Moment, G.str a1.Kind])) rfl km rfl rfl rfl rfl rfl) (qc (qb (qa [.p, .r, .p, .p, .p, .p, .p, .p, .p, .p, .p, .p, .p, .p, .p, .p, .p, .p, .p, .p, .p, .p, .p, .p] ?_))))));refine su (qv rfl km rfl rfl rfl) rfl (sr (z2 rfl km rfl rfl rfl rfl) rfl (su (qn0 [.string a2.Name, .int .i64 a2.Moment, .string a2.Kind] [.string a1.Name, .int .i64 a2.Moment, .string a1.Kind] rfl qrq rfl rfl rfl rfl rfl) rfl (sm rfl rfl (sg rfl rfl (fun h => qe rfl v9 rfl) rfl (sg rfl rfl (fun h => qg rfl ty3 (gd h rfl)) rfl (sg rfl rfl (fun h => qe rfl v9 rfl) rfl ?_))))));refine sg rfl rfl (fun h => qg rfl ty3 (gd h rfl)) rfl (sg rfl rfl (fun h => qe rfl qpv rfl) rfl (sg rfl rfl (fun h => qg rfl ty3 (gd h rfl)) rfl (sg rfl rfl (fun h => jn rfl (gd h rfl) (gd h rfl)) rfl (sg rfl rfl (fun h => vi rfl (gd h rfl) (gd h rfl)) rfl (su (zk rfl rfl rfl rfl) rfl (sm rfl rfl ?_))))));refine sg rfl rfl (fun h => qe rfl v9 rfl) rfl (sg rfl rfl (fun h => qg rfl ty3 (gd h rfl)) rfl (sg rfl rfl (fun h => qe rfl v9 rfl) rfl (sg rfl rfl (fun h => qg rfl ty3 (gd h rfl)) rfl (sg rfl rfl (fun h => qe rfl qpw rfl) rfl (sg rfl rfl (fun h => qg rfl ty3 (gd h rfl)) rfl (sg rfl rfl (fun h => jm rfl (gd h rfl) (gd h rfl)) rfl ?_))))));refine sg rfl rfl (fun h => vq rfl (gd h rfl) (gd h rfl)) rfl (su (zk rfl rfl rfl rfl) rfl (sa rfl rfl (qc (qo ?_))));subst hR;exact zd rfl (rv_g rfl)
def s115_j1 (rec1 : Nat → (List S154) → (List (Int × Bool)) → Option (List S154)) (k6 : Nat) (x9 : List S154) (x10 : List (Int × Bool)) : Option (List S154) :=
 rec1 (k6 + 1) x9 x10
def s115_l2 (rec1 : Nat → (List S154) → (List (Int × Bool)) → Option (List S154)) (a0 : S23) (a1 : List S151) (a2 : List S151) (x3 : List S154) (x5 : List (Int × Bool)) (k6 : Nat) (y7 : Int) : List Int → Nat → Option (List S154)
 | [], k12 => s115_j1 rec1 k6 x3 x5
 | y13 :: t14, k12 => bindO (bif !(mgetD x5 y13 false) then ixO a1 y7 else some default) fun y15 => bindO (bif !(mgetD x5 y13 false) then ixO a2 y13 else some default) fun y16 => (bif (!(mgetD x5 y13 false)) && (s142 a0 y15 y16) then s115_j1 rec1 k6 (x3 ++ [(S154.mk y7 y13)]) (mset x5 y13 true) else s115_l2 rec1 a0 a1 a2 x3 x5 k6 y7 t14 (k12 + 1))
def s115_l1 (a0 : S23) (a1 : List S151) (a2 : List S151) (r1 : List Int) : List Int → Nat → (List S154) → (List (Int × Bool)) → Option (List S154)
 | [], k6, x3, x5 => some x3
 | y7 :: t8, k6, x3, x5 => s115_l2 (fun k_ z0_ z1_ => s115_l1 a0 a1 a2 r1 t8 k_ z0_ z1_) a0 a1 a2 x3 x5 k6 y7 r1 0
def s115 (a0 : S23) (a1 : List S151) (a2 : List S151) : Option (List S154) :=
 bindO (s168 a2) fun r1 => bindO (s168 a1) fun r2 => s115_l1 a0 a1 a2 r1 r2 0 [] []
def s190_l1 (a1 : Int) : List Int → Nat → Int
 | [], k2 => (-1)
 | y3 :: t4, k2 => (bif decide (a1 = y3) then ((k2 : Nat) : Int) else s190_l1 a1 t4 (k2 + 1))
def s190 (a0 : List Int) (a1 : Int) : Int :=
 s190_l1 a1 a0 0
def s144 (a0 : List Int) (a1 : Int) : Bool :=
 decide (0 ≤ (s190 a0 a1))
def s116_j1 (rec1 : (List Int) → Int → List Int) (x2 : Int) (x5 : List Int) : List Int :=
 rec1 x5 (x2 + 1)
def s116_l1 (a1 : List Int) : Nat → (List Int) → Int → List Int
 | 0, x1, x2 => x1
 | k4 + 1, x1, x2 => (bif !(s144 a1 x2) then s116_j1 (fun z0_ z1_ => s116_l1 a1 k4 z0_ z1_) x2 (x1 ++ [x2]) else s116_j1 (fun z0_ z1_ => s116_l1 a1 k4 z0_ z1_) x2 x1)
def s116 (a0 : Int) (a1 : List Int) : List Int :=
 s116_l1 a1 ((a0 - 0).toNat) [] 0
def s118 (a0 : S154) : Int :=
 a0.Slot
def s119 (a0 : S154) : Int :=
 a0.Record
def s117_l1 (a1 : S154 → Int) : List S154 → Nat → (List Int) → List Int
 | [], k3, x1 => x1
 | y4 :: t5, k3, x1 => s117_l1 a1 t5 (k3 + 1) (x1 ++ [(a1 y4)])
def s117 (a0 : List S154) (a1 : S154 → Int) : List Int :=
 s117_l1 a1 a0 0 []
def s113 (a0 : S23) (a1 : List S151) (a2 : List S151) : Int :=
 (s84 [(s23 a0), (s25 a1), (s25 a2)])
end Go.Sim
set_option maxRecDepth 10000
namespace Go.Sim
open Go.Proofs
def s35 (a0 : List Int) : Int :=
 (s89 a0)
def s36_j1  (x1 : Int) : Int :=
 x1
def s36 (a0 : S55) : Int :=
 (bif (decide ((s89 [(s90 a0.Flown 0 512), (s90 a0.Due 0 512)]) = 0)) && (decide (a0.Due < a0.Flown)) then s36_j1 11 else s36_j1 (s89 [(s90 a0.Flown 0 512), (s90 a0.Due 0 512)]))
def s105 (a0 : S23) (a1 : S55) : Int :=
 (s84 [(s23 a0), (s85 a1.Flown 0 512), (s85 a1.Due 0 512), (s86 (decide (a1.Due < a1.Flown)) 11)])
def s106 (a0 : S23) (a1 : S55) : Bool :=
 (decide (0 < a1.Due)) && (decide (IntKind.i64.wrap (a0.Share * a1.Due) ≤ IntKind.i64.wrap (100 * a1.Flown)))
theorem c106 {g : List (Nat × List Value)} (a0 : S23) (a1 : S55)    : Con (EG g) 106 [G.agg [G.int a0.Before, G.int a0.After, G.int a0.Notice, G.int a0.Share, G.sl 1 (List.map cStr a0.Causes), G.int a0.Off, G.int a0.Run], G.agg [G.int a1.Flown, G.int a1.Due]] (G.bool (s106 a0 a1)) := by
 generalize hR : s106 a0 a1 = R;unfold s106 at hR;refine qp Tryz.func106 rfl rfl fun w0 M0 => ?_;refine qb (qa [.p, .p, .p] (su (zo rfl rfl) rfl (su (zo rfl rfl) rfl (sa rfl rfl (qc (qb ?_))))));refine qa [.p, .p, .p, .p, .p, .p, .p, .p, .p, .p, .p, .p, .p, .p, .p] (su (qe rfl qjb rfl) rfl (su (qg rfl ty3 rfl) rfl (su (jh rfl rfl rfl) rfl (sm rfl rfl (sg rfl rfl (fun h => qe rfl qme rfl) rfl (sg rfl rfl (fun h => qg rfl ty3 (gd h rfl)) rfl ?_))))));refine sg rfl rfl (fun h => qeq rfl rfl (gd h rfl)) rfl (sg rfl rfl (fun h => qe rfl qpy rfl) rfl (sg rfl rfl (fun h => qg rfl ty3 (gd h rfl)) rfl (sg rfl rfl (fun h => qe rfl qjb rfl) rfl (sg rfl rfl (fun h => qg rfl ty3 (gd h rfl)) rfl (sg rfl rfl (fun h => qeq rfl (gd h rfl) (gd h rfl)) rfl (sg rfl rfl (fun h => vi rfl (gd h rfl) (gd h rfl)) rfl ?_))))));refine su (zk rfl rfl rfl rfl) rfl (sa rfl rfl (qc (qo ?_)));subst hR;exact zd rfl (rv_g rfl)
def s33 (a0 : S23) (a1 : S55) : Bool × Int :=
 (bif decide ((s105 a0 a1) ≠ 0) then (false, (s105 a0 a1)) else ((s106 a0 a1), 0))
def s34 (a0 : S23) (a1 : S55) : Int × Int :=
 (bif decide ((s105 a0 a1) ≠ 0) then (0, (s105 a0 a1)) else (max 0 (IntKind.i64.wrap ((IntKind.i64.wrap (Int.tdiv (IntKind.i64.wrap ((IntKind.i64.wrap (a0.Share * a1.Due)) + 99)) 100)) - a1.Flown)), 0))
def s37 (a0 : S23) (a1 : S55) : Bool :=
 (decide (0 < a1.Due)) && (decide (IntKind.i64.wrap (a0.Share * a1.Due) ≤ IntKind.i64.wrap (100 * a1.Flown)))
def s38_l1  : Nat → Int → Int
 | 0, x1 => x1
 | k2 + 1, x1 => s38_l1 k2 (IntKind.i64.wrap (x1 + 1))
def s38 (a0 : S23) (a1 : S55) : Int :=
 s38_l1 (((a0.Share * a1.Due + 99) / 100 - a1.Flown - 0).toNat) 0
section
variable {E : Env}
end
section
variable {E : Env} {w0 : World} {M0 : Nat → Prop} {ops : Array Oper} {md : Region.Mode} {cl : Nat → Cls}
end
theorem qkl {α : Type} {c c' : Bool} {a b r : α} (h : (bif c then a else b) = r) (h1 : c' = true) (e : c' = c := by simp) : a = r := by subst e; rw [h1] at h; exact h
end Go.Sim
set_option maxRecDepth 10000
namespace Go.Sim
open Go.Proofs
def s145 (a0 : S23) (a1 : S151) (a2 : S151) : Bool :=
 (((decide (a1.Name = a2.Name)) && (decide (a1.Kind = a2.Kind))) && (decide (IntKind.i64.wrap (a1.Moment - a0.Before) ≤ a2.Moment))) && (decide (a2.Moment ≤ IntKind.i64.wrap (a1.Moment + a0.After)))
def s80_l1 (a1 : Int) : List Int → Nat → Bool
 | [], k2 => false
 | y3 :: t4, k2 => (bif decide (y3 = a1) then true else s80_l1 a1 t4 (k2 + 1))
def s80 (a0 : List Int) (a1 : Int) : Bool :=
 s80_l1 a1 a0 0
def s83_l1 (a1 : List Int) : List Int → Nat → Option Bool
 | [], k2 => some true
 | y3 :: t4, k2 => bindO (ixO a1 ((k2 : Nat) : Int)) fun y5 => (bif decide (y3 ≠ y5) then some false else s83_l1 a1 t4 (k2 + 1))
def s83 (a0 : List Int) (a1 : List Int) : Option Bool :=
 (bif decide ((List.length a0 : Int) ≠ (List.length a1 : Int)) then some false else s83_l1 a1 a0 0)
def s169_l2 (rec1 : Nat → (List Int) → Option (List Int)) (a0 : List S151) (x1 : List Int) (k3 : Nat) (y4 : S151) : Nat → Int → Option (List Int)
 | 0, _ => none
 | k7 + 1, x6 => bindO (bif decide (x6 < (List.length x1 : Int)) then ixO x1 x6 else some default) fun y8 => bindO (bif decide (x6 < (List.length x1 : Int)) then ixO a0 y8 else some default) fun y9 => (bif (decide (x6 < (List.length x1 : Int))) && (decide (y9.Moment ≤ y4.Moment)) then s169_l2 rec1 a0 x1 k3 y4 k7 (x6 + 1) else rec1 (k3 + 1) ((([] ++ (List.take (Int.toNat x6) x1)) ++ [((k3 : Nat) : Int)]) ++ (List.drop (Int.toNat x6) x1)))
def s169_l1 (a0 : List S151) : List S151 → Nat → (List Int) → Option (List Int)
 | [], k3, x1 => some x1
 | y4 :: t5, k3, x1 => s169_l2 (fun k_ z0_ => s169_l1 a0 t5 k_ z0_) a0 x1 k3 y4 ((((List.length x1 : Int) - 0).toNat) + 1) 0
def s169 (a0 : List S151) : Option (List Int) :=
 s169_l1 a0 a0 0 []
def s48 (a0 : S23) (a1 : List S151) (a2 : List S151) : Int :=
 (s35 [(s24 (s18 a0)), (s26 (s20 a1)), (s26 (s20 a2))])
def s49 (a0 : List Int) (a1 : Int) (a2 : Int) (a3 : List Int) : Option Bool :=
 (bif decide (a2 ≠ 0) then some ((decide ((List.length a0 : Int) = 0)) && (decide (a1 = a2))) else bindO (bif decide (a1 = 0) then s83 a0 a3 else some default) fun r1 => some ((decide (a1 = 0)) && r1))
def s50_l1 (a1 : List S154) : List S154 → Nat → Option Bool
 | [], k2 => some true
 | y3 :: t4, k2 => bindO (ixO a1 ((k2 : Nat) : Int)) fun y5 => (bif !(eqAnd [decide (y3.Slot = y5.Slot), decide (y3.Record = y5.Record)]) then some false else s50_l1 a1 t4 (k2 + 1))
def s50 (a0 : List S154) (a1 : List S154) : Option Bool :=
 (bif decide ((List.length a0 : Int) ≠ (List.length a1 : Int)) then some false else s50_l1 a1 a0 0)
def s51_l1  : List S154 → Nat → (List S154) → List S154
 | [], k3, x1 => x1
 | y4 :: t5, k3, x1 => s51_l1  t5 (k3 + 1) (x1 ++ [y4])
def s51 (a0 : List S154) : List S154 :=
 s51_l1 a0 0 []
end Go.Sim
set_option maxRecDepth 10000
namespace Go.Sim
open Go.Proofs
def s120_j1 (rec1 : Nat → (List S154) → (List Int) → Option (List S154)) (k5 : Nat) (x8 : List S154) (x9 : List Int) : Option (List S154) :=
 rec1 (k5 + 1) x8 x9
def s120_j2 (rec2 : Nat → Int → Option (List S154)) (k12 : Nat) (x15 : Int) : Option (List S154) :=
 rec2 (k12 + 1) x15
def s120_l2 (rec1 : Nat → (List S154) → (List Int) → Option (List S154)) (a0 : S23) (a1 : List S151) (a2 : List S151) (x2 : List S154) (x3 : List Int) (k5 : Nat) (y6 : Int) : List S151 → Nat → Int → Option (List S154)
 | [], k12, x10 => (bif decide (0 ≤ x10) then s120_j1 rec1 k5 (x2 ++ [(S154.mk y6 x10)]) (x3 ++ [x10]) else s120_j1 rec1 k5 x2 x3)
 | y13 :: t14, k12, x10 => bindO (ixO a1 y6) fun y16 => bindO (bif ((s145 a0 y16 y13) && (!(s80 x3 ((k12 : Nat) : Int)))) && (!(decide (x10 < 0))) then ixO a2 x10 else some default) fun y17 => (bif ((s145 a0 y16 y13) && (!(s80 x3 ((k12 : Nat) : Int)))) && ((decide (x10 < 0)) || (decide (y13.Moment < y17.Moment))) then s120_j2 (fun k_ z0_ => s120_l2 rec1 a0 a1 a2 x2 x3 k5 y6 t14 k_ z0_) k12 ((k12 : Nat) : Int) else s120_j2 (fun k_ z0_ => s120_l2 rec1 a0 a1 a2 x2 x3 k5 y6 t14 k_ z0_) k12 x10)
def s120_l1 (a0 : S23) (a1 : List S151) (a2 : List S151) : List Int → Nat → (List S154) → (List Int) → Option (List S154)
 | [], k5, x2, x3 => some x2
 | y6 :: t7, k5, x2, x3 => s120_l2 (fun k_ z0_ z1_ => s120_l1 a0 a1 a2 t7 k_ z0_ z1_) a0 a1 a2 x2 x3 k5 y6 a2 0 (-1)
def s120 (a0 : S23) (a1 : List S151) (a2 : List S151) : Option (List S154) :=
 bindO (s169 a1) fun r1 => s120_l1 a0 a1 a2 r1 0 [] []
end Go.Sim
set_option maxRecDepth 10000
namespace Go.Sim
open Go.Proofs
def s183 (a0 : ByteArray) : Bool :=
 !decide (a0 = a0)
theorem c183 {g : List (Nat × List Value)} (a0 : ByteArray)    : Con (EG g) 183 [G.str a0] (G.bool (s183 a0)) := by
 generalize hR : s183 a0 = R;unfold s183 at hR;refine qp Tryz.func183 rfl rfl fun w0 M0 => ?_;refine qb (qa [.p] (sa rfl rfl (qc (qb (qa [.p, .p, .p, .p] (sm rfl rfl ?_))))));refine sm rfl rfl (su (ky rfl rfl rfl) rfl (sa rfl rfl (qc (qo ?_))));subst hR;exact zd rfl (rv_g rfl)
def s133 (a0 : ByteArray) (a1 : ByteArray) : Int :=
 (bif (s183 a0) then (bif (s183 a1) then 0 else (-1)) else (bif (s183 a1) then 1 else (bif strLt a0 a1 then (-1) else (bif !(strLt a0 a1 || decide (a0 = a1)) then 1 else 0))))
theorem c133 {g : List (Nat × List Value)} (a0 : ByteArray) (a1 : ByteArray)    : Con (EG g) 133 [G.str a0, G.str a1] (G.int (s133 a0 a1)) := by
 generalize hR : s133 a0 a1 = R;unfold s133 at hR;refine qp Tryz.func133 rfl rfl fun w0 M0 => ?_;refine qb (qa [.p] (sa rfl rfl (qc (qb (qa [.p, .p, .p] (sm rfl rfl ?_))))));refine su (qf rfl K183 rfl (c183 a0) (qd rfl qk)) rfl (sa rfl rfl (qc (qb (qa [.p, .p, .p] (sm rfl rfl (su (qf rfl K183 rfl (c183 a1) (qd rfl qk)) rfl ?_))))));refine sa rfl rfl (qc (qb (qb (qa [.p] (sm rfl rfl (qc ?_))))));refine qi _ rfl (fun h1 => ?_) (fun h1 => ?_)
 ·replace h1 : ((s183 a0)) = true := h1;replace hR := zl hR h1;(try simp only [bB] at h1);refine qb (qb (qa [.p] (sm rfl rfl (qc (qi _ rfl (fun h2 => ?_) (fun h2 => ?_))))))
  ·replace hR := zl hR h2;refine qb (qa [.p] (sa rfl rfl (qc (qo ?_))));subst hR;exact zd rfl (rv_g rfl)
  ·replace hR := zt hR h2;refine qm (qb (qa [.p] (sa rfl rfl (qc (qo ?_)))));subst hR;exact zd rfl (rv_g rfl)
 ·replace h1 : ((s183 a0)) = false := h1;replace hR := zt hR h1;(try simp only [bB] at h1);refine qm (qb (qb (qa [.p] (sm rfl rfl (qc (qi _ rfl (fun h3 => ?_) (fun h3 => ?_)))))))
  ·replace hR := zl hR h3;refine qb (qa [.p] (sa rfl rfl (qc (qo ?_))));subst hR;exact zd rfl (rv_g rfl)
  ·replace h3 : ((s183 a1)) = false := h3;replace hR := zt hR h3;(try simp only [bB] at h3);refine qm (qb (qb (qa [.p, .p, .p] (sm rfl rfl (sm rfl rfl (su (qrr rfl rfl rfl) rfl ?_))))));refine qc (qi _ rfl (fun h4 => ?_) (fun h4 => ?_))
   ·replace hR := zl hR h4;refine qb (qa [.p] (sa rfl rfl (qc (qo ?_))));subst hR;exact zd rfl (rv_g rfl)
   ·replace h4 : (strLt a0 a1) = false := h4;replace hR := zt hR h4;(try simp only [bB] at h4);refine qm (qb (qb (qa [.p, .p, .p] (sm rfl rfl (sm rfl rfl (su (qrs rfl rfl rfl) rfl ?_))))));refine qc (qi _ rfl (fun h5 => ?_) (fun h5 => ?_))
    ·replace hR := zl hR h5;refine qb (qa [.p] (sa rfl rfl (qc (qo ?_))));subst hR;exact zd rfl (rv_g rfl)
    ·replace hR := zt hR h5;refine qm (qb (qa [.p] (sa rfl rfl (qc (qo ?_)))));subst hR;exact zd rfl (rv_g rfl)
def s176_l1  : List Int → Nat → Int
 | [], k2 => 0
 | y3 :: t4, k2 => (bif decide (y3 ≠ 0) then y3 else s176_l1  t4 (k2 + 1))
def s176 (a0 : List Int) : Int :=
 s176_l1 a0 0
theorem c176 {g : List (Nat × List Value)} (a0 : List Int)    : Con (EG g) 176 [G.sl 1 (List.map cInt a0)] (G.int (s176 a0)) := by
 generalize hR : s176 a0 = R;unfold s176 at hR;refine qp Tryz.func176 rfl rfl fun w0 M0 => ?_;refine zp (f := cInt) (l := a0) 0 rfl fun hla0 => ?_;refine qb (qa [.p] (sa rfl rfl (qc (qb (qa [.p] (sa rfl rfl ?_))))));refine qc (qb (qb (qa [.p, .p, .p] (sm rfl rfl (su (qz (f := cInt) (l := a0) rfl Tryz.underlying82 rfl) rfl (sm rfl rfl ?_))))));refine qc (ql (qu (γ := Nat × (List Int)) (fun g => ([(3, .g (G.int 0)), (6, .g (G.sl 1 (List.map cInt a0))), (7, .g (G.int (List.length a0 : Int))), (8, .g (G.int ((g.1 : Nat) : Int)))], [])) (fun g => a0.drop g.1 = g.2 ∧ s176_l1  g.2 g.1 = R) (fun g => List.length g.2) ⟨rfl, (0, a0), ⟨rfl, rfl, rfl, rfl, trivial⟩, trivial, rfl, ⟨rfl, hR⟩, trivial⟩ ?_))
 ·rintro ⟨k2, t4⟩ ⟨hd, hR⟩;replace hd : a0.drop k2 = t4 := hd;replace hR : s176_l1  t4 k2 = R := hR;refine qb (qa [.p] (su (qy rfl rfl rfl) rfl (qc (zp (f := cInt) (l := a0) 6 rfl fun hlz1 => ?_))));refine qb (qi _ rfl (fun h1 => ?_) (fun h1 => ?_))
  ·replace h1 : (decide (((k2 : Nat) : Int) < (List.length a0 : Int))) = true := h1;obtain ⟨y3, t4, rfl, hx1, hd⟩ := zm hd (decT h1);replace h1 := decT h1;rw [s176_l1] at hR;(try dsimp only at hR);refine qm (qb (ql (qb (qa [.p, .p, .p] (su (zu (f := cInt) (l := a0) (a := y3) rfl Tryz.underlying82 ty3 rfl rfl (Int.natCast_nonneg _) hx1) rfl (su (qg rfl ty3 rfl) rfl ?_))))));refine sa rfl rfl (qc (qb (qa [.p, .p, .p] (sm rfl rfl (sm rfl rfl (su (zw rfl rfl rfl) rfl ?_))))));refine qc (qi _ rfl (fun h3 => ?_) (fun h3 => ?_))
   ·replace hR := zl hR h3;refine qb (qa [.p, .p] (sm rfl rfl (sa rfl rfl (qc (qo ?_)))));subst hR;exact zd rfl (rv_g rfl)
   ·replace h3 : (decide (y3 ≠ 0)) = false := h3;replace hR := zt hR h3;(try simp only [bB] at h3);refine qm (qa [.p, .p] (su (ze rfl rfl rfl iE) rfl (sm rfl rfl (qc ?_))));exact ⟨rfl, (k2 + 1, t4), ⟨rfl, rfl, rfl, rfl, trivial⟩, trivial, rfl, ⟨hd, hR⟩, by simp⟩
  ·replace h1 : (decide (((k2 : Nat) : Int) < (List.length a0 : Int))) = false := h1;obtain rfl := zz hd (decF h1);rw [s176_l1] at hR;refine zc ?_;refine qb (qa [.p, .p] (sm rfl rfl (sa rfl rfl (qc (qo ?_)))));subst hR;exact zd rfl (rv_g rfl)
def s172 (a0 : S104) : Bool :=
 decide (a0.Kind = (⟨#[102, 108, 121]⟩))
theorem c172 {g : List (Nat × List Value)} (a0 : S104)    : Con (EG g) 172 [G.agg [G.str a0.Kind, G.str a0.Name, G.int a0.Moment, G.str a0.Move, G.int a0.fFrom, G.int a0.fTo, G.str a0.Cause, G.int a0.Told]] (G.bool (s172 a0)) := by
 generalize hR : s172 a0 = R;unfold s172 at hR;refine qp Tryz.func172 rfl rfl fun w0 M0 => ?_;refine qb (qa [.p, .p] (su (zo rfl rfl) rfl (sa rfl rfl (qc (qb (qa [.p, .p, .p, .p] ?_))))));refine su (qe rfl qba rfl) rfl (su (qg rfl ty9 rfl) rfl (su (kx rfl rfl rfl) rfl (sa rfl rfl (qc (qo ?_)))));subst hR;exact zd rfl (rv_g rfl)
def s173 (a0 : S104) : S151 :=
 (S151.mk a0.Name a0.Moment a0.Move)
theorem c173 {g : List (Nat × List Value)} (a0 : S104)    : Con (EG g) 173 [G.agg [G.str a0.Kind, G.str a0.Name, G.int a0.Moment, G.str a0.Move, G.int a0.fFrom, G.int a0.fTo, G.str a0.Cause, G.int a0.Told]] (G.agg [G.str ((s173 a0).Name), G.int ((s173 a0).Moment), G.str ((s173 a0).Kind)]) := by
 generalize hR : s173 a0 = R;unfold s173 at hR;refine qp Tryz.func173 rfl rfl fun w0 M0 => ?_;refine qb (qa [.p, .w] (su (zo rfl rfl) rfl (sw (zn 2 rfl z152 rfl rfl) rfl (qc (qb (qa [.p, .p, .p, .p, .p, .p, .p, .w] ?_))))));refine su (qe rfl qb8 rfl) rfl (su (qg rfl ty9 rfl) rfl (su (qe rfl qhf rfl) rfl (su (qg rfl ty3 rfl) rfl (su (qe rfl qhg rfl) rfl (su (qg rfl ty9 rfl) rfl (su (jc rfl z152 rfl quc (zi rfl (zi rfl (zi rfl kp))) rfl) rfl ?_))))));refine js rfl rfl (zb (tv := .g (G.agg [G.str a0.Name, G.int a0.Moment, G.str a0.Move])) rfl km rfl rfl rfl rfl rfl) (qc (qo ?_));subst hR;exact zd rfl (kr rfl rfl km rfl rfl)
def s175 (a0 : S151) (a1 : S151) : Int :=
 (s176 [(s167 a0.Moment a1.Moment), (s133 a0.Name a1.Name), (s133 a0.Kind a1.Kind)])
theorem c175 {g : List (Nat × List Value)} (a0 : S151) (a1 : S151)    : Con (EG g) 175 [G.agg [G.str a0.Name, G.int a0.Moment, G.str a0.Kind], G.agg [G.str a1.Name, G.int a1.Moment, G.str a1.Kind]] (G.int (s175 a0 a1)) := by
 generalize hR : s175 a0 a1 = R;unfold s175 at hR;refine qp Tryz.func175 rfl rfl fun w0 M0 => ?_;refine qb (qa [.p, .p, .p] (su (zo rfl rfl) rfl (su (zo rfl rfl) rfl (sa rfl rfl (qc (qb ?_))))));refine z0 [.p, .p, .p, .p, .p, .p, .p, .p, .p, .p, .p, .p, .p, .p, .p, .p, .p, .p] (by kernel_rfl) (su (qe rfl v9 rfl) rfl (su (qg rfl ty3 rfl) rfl (su (qe rfl v9 rfl) rfl (su (qg rfl ty3 rfl) rfl (su (qf rfl K167 rfl (c167 a0.Moment a1.Moment) (qd rfl (qd rfl qk))) rfl (su (qe rfl qck rfl) rfl ?_))))));refine su (qg rfl ty9 rfl) rfl (su (qe rfl qck rfl) rfl (su (qg rfl ty9 rfl) rfl (su (qf rfl K133 rfl (c133 a0.Name a1.Name) (qd rfl (qd rfl qk))) rfl (su (qe rfl qhw rfl) rfl (su (qg rfl ty9 rfl) rfl (su (qe rfl qhw rfl) rfl ?_))))));refine su (qg rfl ty9 rfl) rfl (su (qf rfl K133 rfl (c133 a0.Kind a1.Kind) (qd rfl (qd rfl qk))) rfl (su (qw rfl Tryz.underlying82 ty3 z3 rfl (za rfl (za rfl (za rfl jz))) rfl (by simp []) (by decide)) rfl (su (qf rfl K176 rfl (c176 [(s167 a0.Moment a1.Moment), (s133 a0.Name a1.Name), (s133 a0.Kind a1.Kind)]) (qd rfl qk)) rfl (sa rfl rfl (qc (qo ?_))))));subst hR;exact zd rfl (rv_g rfl)
def s208 (a0 : S104) (a1 : Int) : Bool :=
 (decide (a0.fFrom ≤ a1)) && (decide (a1 ≤ a0.fTo))
theorem c208 {g : List (Nat × List Value)} (a0 : S104) (a1 : Int)    : Con (EG g) 208 [G.agg [G.str a0.Kind, G.str a0.Name, G.int a0.Moment, G.str a0.Move, G.int a0.fFrom, G.int a0.fTo, G.str a0.Cause, G.int a0.Told], G.int a1] (G.bool (s208 a0 a1)) := by
 generalize hR : s208 a0 a1 = R;unfold s208 at hR;refine qp Tryz.func208 rfl rfl fun w0 M0 => ?_;refine qb (qa [.p, .p] (su (zo rfl rfl) rfl (sa rfl rfl (qc (qb (qa [.p, .p, .p, .p, .p, .p, .p, .p, .p, .p, .p] ?_))))));refine su (qe rfl qef rfl) rfl (su (qg rfl ty3 rfl) rfl (sm rfl rfl (su (vq rfl rfl rfl) rfl (sm rfl rfl (sg rfl rfl (fun h => qh rfl rfl) rfl (sg rfl rfl (fun h => qe rfl qeg rfl) rfl ?_))))));refine sg rfl rfl (fun h => qg rfl ty3 (gd h rfl)) rfl (sg rfl rfl (fun h => vq rfl (gd h rfl) (gd h rfl)) rfl (su (zk rfl rfl rfl rfl) rfl (sa rfl rfl (qc (qo ?_)))));subst hR;exact zd rfl (rv_g rfl)
def s207 (a0 : S104) (a1 : S151) (a2 : Int) (a3 : S23) : Bool :=
 (((decide (a0.Kind = (⟨#[98, 97, 99, 107]⟩))) && (decide (a0.Name = a1.Name))) && (s208 a0 a2)) && (decide (IntKind.i64.wrap (a0.Told + a3.Notice) ≤ a2))
theorem c207 {g : List (Nat × List Value)} (a0 : S104) (a1 : S151) (a2 : Int) (a3 : S23)    : Con (EG g) 207 [G.agg [G.str a0.Kind, G.str a0.Name, G.int a0.Moment, G.str a0.Move, G.int a0.fFrom, G.int a0.fTo, G.str a0.Cause, G.int a0.Told], G.ref [G.str a1.Name, G.int a1.Moment, G.str a1.Kind], G.ref [G.int a2], G.ref [G.int a3.Before, G.int a3.After, G.int a3.Notice, G.int a3.Share, G.sl 1 (List.map cStr a3.Causes), G.int a3.Off, G.int a3.Run]] (G.bool (s207 a0 a1 a2 a3)) := by
 generalize hR : s207 a0 a1 a2 a3 = R;unfold s207 at hR;refine qp Tryz.func207 rfl rfl fun w0 M0 => ?_;refine qb (qa [.p, .p] (su (zo rfl rfl) rfl (sa rfl rfl (qc (qb (qa [.p, .p, .p, .p, .p, .p, .p, .p, .p, .p, .p, .p, .p, .p, .p, .p, .p, .p, .p, .p, .p, .p, .p, .p, .p] ?_))))));refine su (qe rfl qba rfl) rfl (su (qg rfl ty9 rfl) rfl (su (kx rfl rfl rfl) rfl (sm rfl rfl (sg rfl rfl (fun h => qe rfl qb8 rfl) rfl (sg rfl rfl (fun h => qg rfl ty9 (gd h rfl)) rfl (sg rfl rfl (fun h => qe rfl qck rfl) rfl ?_))))));refine sg rfl rfl (fun h => qg rfl ty9 (gd h rfl)) rfl (sg rfl rfl (fun h => kx rfl (gd h rfl) (gd h rfl)) rfl (su (zk rfl rfl rfl rfl) rfl (sm rfl rfl (sg rfl rfl (fun h => qv rfl xp rfl rfl rfl) rfl (sg rfl rfl (fun h => qg rfl ty3 rfl) rfl (sg rfl rfl (fun h => qf rfl K208 rfl (c208 a0 a2) (qd (gd h rfl) (qd (gd h rfl) qk))) rfl ?_))))));refine su (zk rfl rfl rfl rfl) rfl (sm rfl rfl (sg rfl rfl (fun h => qe rfl qhi rfl) rfl (sg rfl rfl (fun h => qg rfl ty3 (gd h rfl)) rfl (sg rfl rfl (fun h => qe rfl qpx rfl) rfl (sg rfl rfl (fun h => qg rfl ty3 (gd h rfl)) rfl (sg rfl rfl (fun h => jm rfl (gd h rfl) (gd h rfl)) rfl ?_))))));refine sg rfl rfl (fun h => qg rfl ty3 rfl) rfl (sg rfl rfl (fun h => vq rfl (gd h rfl) (gd h rfl)) rfl (su (zk rfl rfl rfl rfl) rfl (sa rfl rfl (qc (qo ?_)))));subst hR;exact zd rfl (rv_g rfl)
def s209 (a0 : S104) (a1 : Int) (a2 : S151) (a3 : S23) : Bool :=
 (s208 a0 a1) && ((decide (a0.Kind = (⟨#[119, 101, 97, 116, 104, 101, 114]⟩))) || (((decide (a0.Kind = (⟨#[99, 97, 110, 99, 101, 108]⟩))) && (decide (a0.Name = a2.Name))) && (s88 a3.Causes a0.Cause)))
theorem c209 {g : List (Nat × List Value)} (a0 : S104) (a1 : Int) (a2 : S151) (a3 : S23)    : Con (EG g) 209 [G.agg [G.str a0.Kind, G.str a0.Name, G.int a0.Moment, G.str a0.Move, G.int a0.fFrom, G.int a0.fTo, G.str a0.Cause, G.int a0.Told], G.ref [G.int a1], G.ref [G.str a2.Name, G.int a2.Moment, G.str a2.Kind], G.ref [G.int a3.Before, G.int a3.After, G.int a3.Notice, G.int a3.Share, G.sl 1 (List.map cStr a3.Causes), G.int a3.Off, G.int a3.Run]] (G.bool (s209 a0 a1 a2 a3)) := by
 generalize hR : s209 a0 a1 a2 a3 = R;unfold s209 at hR;refine qp Tryz.func209 rfl rfl fun w0 M0 => ?_;refine qb (qa [.p, .p] (su (zo rfl rfl) rfl (sa rfl rfl (qc (qb (qa [.p, .p, .p, .p, .p, .p, .p, .p, .p, .p, .p, .p, .p, .p, .p, .p, .p, .p, .p, .p, .p, .p, .p, .p, .p, .p, .p, .p] ?_))))));refine su (qv rfl xp rfl rfl rfl) rfl (su (qg rfl ty3 rfl) rfl (su (qf rfl K208 rfl (c208 a0 a1) (qd rfl (qd rfl qk))) rfl (sm rfl rfl (sg rfl rfl (fun h => qe rfl qba rfl) rfl (sg rfl rfl (fun h => qg rfl ty9 (gd h rfl)) rfl (sg rfl rfl (fun h => kx rfl (gd h rfl) rfl) rfl ?_))))));refine sg rfl rfl (fun h => qh rfl (gd h rfl)) rfl (st_g rfl rfl rfl (zr _ _ _) (fun h => qe rfl qba rfl) rfl (st_g rfl rfl rfl (zr _ _ _) (fun h => qg rfl ty9 (gd h rfl)) rfl (st_g rfl rfl rfl (zr _ _ _) (fun h => kx rfl (gd h rfl) rfl) rfl (st_g rfl rfl rfl (zr _ _ _) (fun h => qh rfl (gd h rfl)) rfl (st_g rfl rfl rfl (zr _ _ _) (fun h => qe rfl qb8 rfl) rfl (st_g rfl rfl rfl (zr _ _ _) (fun h => qg rfl ty9 (gd h rfl)) rfl ?_))))));refine st_g rfl rfl rfl (zr _ _ _) (fun h => qe rfl qck rfl) rfl (st_g rfl rfl rfl (zr _ _ _) (fun h => qg rfl ty9 (gd h rfl)) rfl (st_g rfl rfl rfl (zr _ _ _) (fun h => kx rfl (gd h rfl) (gd h rfl)) rfl (st_g rfl rfl rfl (zr _ _ _) (fun h => zk rfl (gd h rfl) rfl (gd2 h rfl)) rfl (st_g rfl rfl rfl (zr _ _ _) (fun h => qh rfl (gd h rfl)) rfl (st_g rfl rfl rfl (zr _ _ _) (fun h => qe rfl qiy rfl) rfl (st_g rfl rfl rfl (zr _ _ _) (fun h => qg rfl ty22 (gd h rfl)) rfl ?_))))));refine st_g rfl rfl rfl (zr _ _ _) (fun h => qe rfl qhh rfl) rfl (st_g rfl rfl rfl (zr _ _ _) (fun h => qg rfl ty9 (gd h rfl)) rfl (st_g rfl rfl rfl (zr _ _ _) (fun h => qf rfl K88 rfl (c88 a3.Causes a0.Cause) (qd (gd h rfl) (qd (gd h rfl) qk))) rfl (st_g rfl rfl rfl (zr _ _ _) (fun h => zk rfl (gd h rfl) rfl (gd2 h rfl)) rfl (sg rfl rfl (fun h => ju rfl (gd h rfl) rfl (gd2 h rfl)) rfl (su (zk rfl rfl rfl rfl) rfl (sa rfl rfl ?_))))));refine qc (qo ?_);subst hR;exact zd rfl (rv_g rfl)
end Go.Sim
set_option maxRecDepth 10000
namespace Go.Sim
open Go.Proofs
def s170_l1 (a1 : S104 → S151) : List S104 → Nat → (List S151) → List S151
 | [], k3, x1 => x1
 | y4 :: t5, k3, x1 => s170_l1 a1 t5 (k3 + 1) (x1 ++ [(a1 y4)])
def s170 (a0 : List S104) (a1 : S104 → S151) : List S151 :=
 s170_l1 a1 a0 0 []
def s171_j1 (rec1 : Nat → (List S104) → List S104) (k3 : Nat) (x6 : List S104) : List S104 :=
 rec1 (k3 + 1) x6
def s171_l1 (a1 : S104 → Bool) : List S104 → Nat → (List S104) → List S104
 | [], k3, x1 => x1
 | y4 :: t5, k3, x1 => (bif (a1 y4) then s171_j1 (fun k_ z0_ => s171_l1 a1 t5 k_ z0_) k3 (x1 ++ [y4]) else s171_j1 (fun k_ z0_ => s171_l1 a1 t5 k_ z0_) k3 x1)
def s171 (a0 : List S104) (a1 : S104 → Bool) : List S104 :=
 s171_l1 a1 a0 0 []
def s242_l1 (a1 : S104 → Bool) : List S104 → Nat → Int
 | [], k2 => (-1)
 | y3 :: t4, k2 => (bif (a1 y3) then ((k2 : Nat) : Int) else s242_l1 a1 t4 (k2 + 1))
def s242 (a0 : List S104) (a1 : S104 → Bool) : Int :=
 s242_l1 a1 a0 0
theorem c242 {g : List (Nat × List Value)} (a0 : List S104) (a1 : S104 → Bool) {ca1 : G} {ia1 : FuncId} {ka1 : List G} (ha1 : FnIs ca1 ia1 ka1) (Ka1 : Known Tryz.prog ia1) (Ha1 : ∀ (x0 : S104), Con (EG g) ia1 ([G.agg [G.str x0.Kind, G.str x0.Name, G.int x0.Moment, G.str x0.Move, G.int x0.fFrom, G.int x0.fTo, G.str x0.Cause, G.int x0.Told]] ++ ka1) (G.bool (a1 x0)))   : Con (EG g) 242 [G.sl 8 (List.map S104.c a0), ca1] (G.int (s242 a0 a1)) := by
 generalize hR : s242 a0 a1 = R;unfold s242 at hR;refine qp Tryz.func242 rfl rfl fun w0 M0 => ?_;refine zp (f := S104.c) (l := a0) 0 rfl fun hla0 => ?_;refine qb (qa [.p] (sa rfl rfl (qc (qb (qb (qa [.p, .p, .p] ?_))))));refine sm rfl rfl (su (qz (f := S104.c) (l := a0) rfl Tryz.underlying26 rfl) rfl (sm rfl rfl (qc (ql (qu (γ := Nat × (List S104)) (fun g => ([(0, .g (G.sl 8 (List.map S104.c a0))), (1, .g (ca1)), (7, .g (G.int (List.length a0 : Int))), (8, .g (G.int ((g.1 : Nat) : Int)))], [])) (fun g => a0.drop g.1 = g.2 ∧ s242_l1 a1 g.2 g.1 = R) (fun g => List.length g.2) ⟨rfl, (0, a0), ⟨rfl, rfl, rfl, rfl, trivial⟩, trivial, rfl, ⟨rfl, hR⟩, trivial⟩ ?_)))))
 ·rintro ⟨k2, t4⟩ ⟨hd, hR⟩;replace hd : a0.drop k2 = t4 := hd;replace hR : s242_l1 a1 t4 k2 = R := hR;refine qb (qa [.p] (su (qy rfl rfl rfl) rfl (qc (zp (f := S104.c) (l := a0) 0 rfl fun hlz1 => ?_))));refine qb (qi _ rfl (fun h1 => ?_) (fun h1 => ?_))
  ·replace h1 : (decide (((k2 : Nat) : Int) < (List.length a0 : Int))) = true := h1;obtain ⟨y3, t4, rfl, hx1, hd⟩ := zm hd (decT h1);replace h1 := decT h1;rw [s242_l1] at hR;(try dsimp only at hR);refine qm (qb (ql (qb (qa [.p, .p] (sm rfl rfl (sa rfl rfl ?_))))));refine qc (qb (qa [.p, .p, .p, .p, .p, .p] (sm rfl rfl (sm rfl rfl (sm rfl rfl (su (zu (f := S104.c) (l := a0) (a := y3) rfl Tryz.underlying26 xp rfl rfl (Int.natCast_nonneg _) hx1) rfl ?_))))));refine su (qv rfl xp rfl rfl rfl) rfl (su (jv rfl ha1 Ka1 rfl (Ha1 y3) (qd rfl qk)) rfl (qc (qi _ rfl (fun h3 => ?_) (fun h3 => ?_))))
   ·replace hR := zl hR h3;refine qb (qa [.p, .p] (sm rfl rfl (sa rfl rfl (qc (qo ?_)))));subst hR;exact zd rfl (rv_g rfl)
   ·replace h3 : ((a1 y3)) = false := h3;replace hR := zt hR h3;(try simp only [bB] at h3);refine qm (qa [.p, .p] (su (ze rfl rfl rfl iE) rfl (sm rfl rfl (qc ?_))));exact ⟨rfl, (k2 + 1, t4), ⟨rfl, rfl, rfl, rfl, trivial⟩, trivial, rfl, ⟨hd, hR⟩, by simp⟩
  ·replace h1 : (decide (((k2 : Nat) : Int) < (List.length a0 : Int))) = false := h1;obtain rfl := zz hd (decF h1);rw [s242_l1] at hR;refine zc ?_;refine qb (qa [.p] (sa rfl rfl (qc (qo ?_))));subst hR;exact zd rfl (rv_g rfl)
def s206 (a0 : List S104) (a1 : S104 → Bool) : Bool :=
 decide (0 ≤ (s242 a0 a1))
theorem c206 {g : List (Nat × List Value)} (a0 : List S104) (a1 : S104 → Bool) {ca1 : G} {ia1 : FuncId} {ka1 : List G} (ha1 : FnIs ca1 ia1 ka1) (Ka1 : Known Tryz.prog ia1) (Ha1 : ∀ (x0 : S104), Con (EG g) ia1 ([G.agg [G.str x0.Kind, G.str x0.Name, G.int x0.Moment, G.str x0.Move, G.int x0.fFrom, G.int x0.fTo, G.str x0.Cause, G.int x0.Told]] ++ ka1) (G.bool (a1 x0)))   : Con (EG g) 206 [G.sl 8 (List.map S104.c a0), ca1] (G.bool (s206 a0 a1)) := by
 generalize hR : s206 a0 a1 = R;unfold s206 at hR;refine qp Tryz.func206 rfl rfl fun w0 M0 => ?_;refine zp (f := S104.c) (l := a0) 0 rfl fun hla0 => ?_;refine qb (qa [.p] (sa rfl rfl (qc (qb (qa [.p, .p, .p, .p, .p] (sm rfl rfl ?_))))));refine sm rfl rfl (su (qf rfl K242 rfl (c242 a0 a1 ha1 Ka1 Ha1) (qd rfl (qd rfl qk))) rfl (su (vi rfl rfl rfl) rfl (sa rfl rfl (qc (qo ?_)))));subst hR;exact zd rfl (rv_g rfl)
def s177 (a0 : S23) (a1 : S151) (a2 : List S104) : Bool :=
 (s206 a2 (fun x0 => s207 x0 a1 (IntKind.i64.wrap (Int.tdiv a1.Moment 1440)) a0))
theorem c177 {g : List (Nat × List Value)} (a0 : S23) (a1 : S151) (a2 : List S104)    : Con (EG g) 177 [G.agg [G.int a0.Before, G.int a0.After, G.int a0.Notice, G.int a0.Share, G.sl 1 (List.map cStr a0.Causes), G.int a0.Off, G.int a0.Run], G.agg [G.str a1.Name, G.int a1.Moment, G.str a1.Kind], G.sl 8 (List.map S104.c a2)] (G.bool (s177 a0 a1 a2)) := by
 generalize hR : s177 a0 a1 a2 = R;unfold s177 at hR;refine qp Tryz.func177 rfl rfl fun w0 M0 => ?_;refine zp (f := S104.c) (l := a2) 2 rfl fun hla2 => ?_;refine qb (qa [.p, .p, .p] (su (zo rfl rfl) rfl (su (zo rfl rfl) rfl (sa rfl rfl (qc (qb ?_))))));refine qa [.p, .p, .p, .w, .w] (su (qe rfl v9 rfl) rfl (su (qg rfl ty3 rfl) rfl (su (w4 rfl rfl rfl (by decide)) rfl (sw (zn 7 rfl z3 rfl rfl) rfl (js rfl rfl (zb (tv := .g (G.int (IntKind.i64.wrap (Int.tdiv a1.Moment 1440)))) rfl ty3 rfl rfl rfl rfl rfl) (qc ?_))))));refine qb (v6 (l := [(2, .g (G.sl 8 (List.map S104.c a2))), (3, .g (G.ref [G.int a0.Before, G.int a0.After, G.int a0.Notice, G.int a0.Share, G.sl 1 (List.map cStr a0.Causes), G.int a0.Off, G.int a0.Run])), (4, .g (G.ref [G.str a1.Name, G.int a1.Moment, G.str a1.Kind])), (7, .g (G.ref [G.int (IntKind.i64.wrap (Int.tdiv a1.Moment 1440))]))]) (m := []) 7 rfl ⟨.inl ⟨rfl, rfl⟩, .inl ⟨rfl, rfl⟩, .inl ⟨rfl, rfl⟩, .inr (qhs rfl), trivial⟩ trivial rfl rfl ?_);refine qa [.p, .p, .p, .p] (sm rfl rfl (su (xi rfl rfl rfl) rfl (su (qf rfl K206 rfl (c206 a2 (fun x0 => s207 x0 a1 (IntKind.i64.wrap (Int.tdiv a1.Moment 1440)) a0) qb5 K207 (fun x0 => c207 x0 a1 (IntKind.i64.wrap (Int.tdiv a1.Moment 1440)) a0)) (qd rfl (qd rfl qk))) rfl (sa rfl rfl (qc (qo ?_))))));subst hR;exact zd rfl (rv_g rfl)
def s178 (a0 : S23) (a1 : S151) (a2 : List S104) : Bool :=
 (s206 a2 (fun x0 => s209 x0 (IntKind.i64.wrap (Int.tdiv a1.Moment 1440)) a1 a0))
theorem c178 {g : List (Nat × List Value)} (a0 : S23) (a1 : S151) (a2 : List S104)    : Con (EG g) 178 [G.agg [G.int a0.Before, G.int a0.After, G.int a0.Notice, G.int a0.Share, G.sl 1 (List.map cStr a0.Causes), G.int a0.Off, G.int a0.Run], G.agg [G.str a1.Name, G.int a1.Moment, G.str a1.Kind], G.sl 8 (List.map S104.c a2)] (G.bool (s178 a0 a1 a2)) := by
 generalize hR : s178 a0 a1 a2 = R;unfold s178 at hR;refine qp Tryz.func178 rfl rfl fun w0 M0 => ?_;refine zp (f := S104.c) (l := a2) 2 rfl fun hla2 => ?_;refine qb (qa [.p, .p, .p] (su (zo rfl rfl) rfl (su (zo rfl rfl) rfl (sa rfl rfl (qc (qb ?_))))));refine qa [.p, .p, .p, .w, .w] (su (qe rfl v9 rfl) rfl (su (qg rfl ty3 rfl) rfl (su (w4 rfl rfl rfl (by decide)) rfl (sw (zn 7 rfl z3 rfl rfl) rfl (js rfl rfl (zb (tv := .g (G.int (IntKind.i64.wrap (Int.tdiv a1.Moment 1440)))) rfl ty3 rfl rfl rfl rfl rfl) (qc ?_))))));refine qb (v6 (l := [(2, .g (G.sl 8 (List.map S104.c a2))), (3, .g (G.ref [G.int a0.Before, G.int a0.After, G.int a0.Notice, G.int a0.Share, G.sl 1 (List.map cStr a0.Causes), G.int a0.Off, G.int a0.Run])), (4, .g (G.ref [G.str a1.Name, G.int a1.Moment, G.str a1.Kind])), (7, .g (G.ref [G.int (IntKind.i64.wrap (Int.tdiv a1.Moment 1440))]))]) (m := []) 7 rfl ⟨.inl ⟨rfl, rfl⟩, .inl ⟨rfl, rfl⟩, .inl ⟨rfl, rfl⟩, .inr (qhs rfl), trivial⟩ trivial rfl rfl ?_);refine qa [.p, .p, .p, .p] (sm rfl rfl (su (xi rfl rfl rfl) rfl (su (qf rfl K206 rfl (c206 a2 (fun x0 => s209 x0 (IntKind.i64.wrap (Int.tdiv a1.Moment 1440)) a1 a0) qb5 K209 (fun x0 => c209 x0 (IntKind.i64.wrap (Int.tdiv a1.Moment 1440)) a1 a0)) (qd rfl (qd rfl qk))) rfl (sa rfl rfl (qc (qo ?_))))));subst hR;exact zd rfl (rv_g rfl)
def s126_j1 (a0 : S55) (a1 : Int) (x1 : Int) : S55 :=
 (bif (decide (a1 = 1)) || (decide (a1 = 2)) then (S55.mk (IntKind.i64.wrap (a0.Flown + 1)) x1) else (S55.mk a0.Flown x1))
def s126 (a0 : S55) (a1 : Int) : S55 :=
 (bif decide (a1 ≠ 0) then s126_j1 a0 a1 (IntKind.i64.wrap (a0.Due + 1)) else s126_j1 a0 a1 a0.Due)
theorem c126 {g : List (Nat × List Value)} (a0 : S55) (a1 : Int)    : ConB (EG g) 126 [.ptr 0 0, .g (G.int a1)] [(0, .box [.g (G.int a0.Flown), .g (G.int a0.Due)])] (G.tup []) [(0, .box [.g (G.int ((s126 a0 a1).Flown)), .g (G.int ((s126 a0 a1).Due))])] := by
 generalize hR : s126 a0 a1 = R;unfold s126 at hR;refine jd Tryz.func126 rfl rfl rfl fun w0 M0 x => ?_;refine j6 (γ := Int) (fun g => ([(0, .ptr 0 0), (1, .g (G.int a1))], [(0, .box [.g (G.int a0.Flown), .g (G.int g)])])) (fun g => s126_j1 a0 a1 g = R) ?_ ?_
 ·refine qb (qa [.p, .p] (sm rfl rfl (su (zw rfl rfl rfl) rfl (qc (qi _ rfl (fun h2 => ?_) (fun h2 => ?_))))))
  ·replace hR := zl hR h2;refine qa [.p, .p, .p, .r, .p, .p, .p, .w] (su (xh rfl rfl) rfl (su (qbv rfl rfl) rfl (su (z4 rfl qjb rfl) rfl (sr (zx rfl ty3 rfl rfl rfl) rfl (su (jm rfl rfl rfl) rfl (su (qbv rfl rfl) rfl ?_))))));refine su (z4 rfl qjb rfl) rfl (js rfl rfl (zb (tv := .g (G.int (IntKind.i64.wrap (a0.Due + 1)))) rfl ty3 rfl rfl rfl rfl rfl) (qc ?_));exact ⟨rfl, IntKind.i64.wrap (a0.Due + 1), ⟨rfl, rfl, trivial⟩, ⟨rfl, trivial⟩, rfl, hR, trivial⟩
  ·replace hR := zt hR h2;refine qm ?_;exact ⟨rfl, a0.Due, ⟨rfl, rfl, trivial⟩, ⟨rfl, trivial⟩, rfl, hR, trivial⟩
 ·rintro x1 hR;replace hR : s126_j1 a0 a1 x1 = R := hR;unfold s126_j1 at hR;refine qb (qa [.p, .p, .p, .p, .p, .p] (sm rfl rfl (su (jk rfl rfl rfl) rfl (sm rfl rfl (sg rfl rfl (fun h => qh rfl rfl) rfl (sg rfl rfl (fun h => jk rfl (gd h rfl) rfl) rfl ?_))))));refine su (ju rfl rfl rfl rfl) rfl (qc (qi _ rfl (fun h1 => ?_) (fun h1 => ?_)))
  ·replace hR := zl hR h1;refine qa [.p, .p, .p, .r, .p, .p, .p, .w] (su (xh rfl rfl) rfl (su (qbv rfl rfl) rfl (su (z4 rfl qme rfl) rfl (sr (zx rfl ty3 rfl rfl rfl) rfl (su (jm rfl rfl rfl) rfl (su (qbv rfl rfl) rfl ?_))))));refine su (z4 rfl qme rfl) rfl (js rfl rfl (zb (tv := .g (G.int (IntKind.i64.wrap (a0.Flown + 1)))) rfl ty3 rfl rfl rfl rfl rfl) (qc ?_));subst hR;show ResOk _ _ _ _ ∧ MemL _ _;exact ⟨res0 rfl, ⟨rfl, trivial⟩⟩
  ·replace hR := zt hR h1;refine qm ?_;subst hR;show ResOk _ _ _ _ ∧ MemL _ _;exact ⟨res0 rfl, ⟨rfl, trivial⟩⟩
theorem qdu (rec1 : Int → List Int → Option (List Int)) (cmp : Int → Int → Option Int) (lt : Int → Int → Bool) (x1 : Int) (x : Int) : ∀ (P B : List Int) (k : Nat), P.length < k → (∀ y ∈ P, ∃ c, cmp x y = some c ∧ decide (c < 0) = lt x y) →
  s252_l2 rec1 0 cmp x1 k (P.length : Int) (P.reverse ++ x :: B) = rec1 (x1 + 1) ((insB lt x P).reverse ++ B)
 | [], B, 0, h, _ => by omega
 | [], B, k + 1, h, _ => by
  rw [s252_l2]
  have e : decide ((0 : Int) < (([] : List Int).length : Int)) = false := by simp
  simp only [e, cond_false, bindO, Bool.false_and, insB]
  simp
 | y :: r, B, 0, h, _ => by omega
 | y :: r, B, k + 1, h, hc => by
  have e : decide ((0 : Int) < ((y :: r).length : Int)) = true := by simp <;> omega
  have l1 : (y :: r).reverse ++ x :: B = (r.reverse ++ [y]) ++ x :: B := by simp
  have l2 : (r.reverse ++ [y]) ++ x :: B = r.reverse ++ y :: (x :: B) := by simp
  have i1 : ixO ((r.reverse ++ [y]) ++ x :: B) ((y :: r).length : Int) = some x := xe (by simp)
  have i2 : ixO ((r.reverse ++ [y]) ++ x :: B) (((y :: r).length : Int) - 1) = some y := by rw [l2]; exact xe (by simp)
  obtain ⟨c, c1, c2⟩ := hc y List.mem_cons_self;rw [s252_l2, l1];simp only [e, cond_true, i1, i2, bindO, c1, Bool.true_and, c2]
  cases hl : lt x y with
  | true =>
   have e1 : List.set ((r.reverse ++ [y]) ++ x :: B) (Int.toNat ((y :: r).length : Int)) y = (r.reverse ++ [y]) ++ y :: B := xg (by simp)
   have e2 : List.set ((r.reverse ++ [y]) ++ y :: B) (Int.toNat (((y :: r).length : Int) - 1)) x = r.reverse ++ x :: (y :: B) := by
    rw [show (r.reverse ++ [y]) ++ y :: B = r.reverse ++ y :: (y :: B) by simp];exact xg (by simp)
   have e3 : (((y :: r).length : Int) - 1) = (r.length : Int) := by simp
   have hih := qdu rec1 cmp lt x1 x r (y :: B) k (by simp at h; omega) (fun z hz => hc z (List.mem_cons_of_mem _ hz))
   have i3 : ixO (List.set ((r.reverse ++ [y]) ++ x :: B) (Int.toNat ((y :: r).length : Int)) y) (((y :: r).length : Int) - 1) = some y := by
    rw [e1, show (r.reverse ++ [y]) ++ y :: B = r.reverse ++ y :: (y :: B) by simp];exact xe (by simp)
   rw [cond_true];simp only [i3];rw [e1, e2, e3, hih]
   simp [insB, hl]
  | false =>
   rw [cond_false]
   simp [insB, hl]
theorem qdv (cmp : Int → Int → Option Int) (lt : Int → Int → Bool) : ∀ (l P : List Int), (∀ y ∈ P ++ l, ∀ x ∈ l, ∃ c, cmp x y = some c ∧ decide (c < 0) = lt x y) → s252_l1 0 cmp l.length (P.length : Int) (P.reverse ++ l) = some (insS lt P l)
 | [], P, _ => by rw [List.length_nil, s252_l1, insS, List.append_nil]
 | x :: l, P, h => by
  rw [List.length_cons, s252_l1, qdu _ cmp lt _ x P l _ (by omega) (fun y hy => h y (List.mem_append_left _ hy) x List.mem_cons_self), insS]
  have := qdv cmp lt l (insB lt x P) (fun y hy z hz => h y (by
   rcases List.mem_append.1 hy with hy | hy
   ·rcases List.mem_cons.1 ((v8 lt x P).mem_iff.1 hy) with rfl | hy
    ·simp
    ·simp [hy]
   ·simp [hy]) z (List.mem_cons_of_mem _ hz))
  rw [← this, qi8]
  simp
theorem qrt {cmp : Int → Int → Option Int} {lt : Int → Int → Bool} {l : List Int} (h : ∀ y ∈ l, ∀ x ∈ l, ∃ c, cmp x y = some c ∧ decide (c < 0) = lt x y) : s252 l 0 (l.length : Int) cmp = some (isort lt l) := by
 unfold s252 isort
 cases l with
 | nil => rfl
 | cons x l =>
  have e : ((((x :: l).length : Int) - (0 + 1)).toNat) = l.length := by simp
  rw [e, insS];exact qdv cmp lt l [x] (fun y hy z hz => h y hy z (List.mem_cons_of_mem _ hz))
theorem qdw (rec1 : Int → List S151 → Option (List S151)) (cmp : S151 → S151 → Option Int) (lt : S151 → S151 → Bool) (x1 : Int) (x : S151) : ∀ (P B : List S151) (k : Nat), P.length < k → (∀ y ∈ P, ∃ c, cmp x y = some c ∧ decide (c < 0) = lt x y) →
  s234_l2 rec1 0 cmp x1 k (P.length : Int) (P.reverse ++ x :: B) = rec1 (x1 + 1) ((insB lt x P).reverse ++ B)
 | [], B, 0, h, _ => by omega
 | [], B, k + 1, h, _ => by
  rw [s234_l2]
  have e : decide ((0 : Int) < (([] : List S151).length : Int)) = false := by simp
  simp only [e, cond_false, bindO, Bool.false_and, insB]
  simp
 | y :: r, B, 0, h, _ => by omega
 | y :: r, B, k + 1, h, hc => by
  have e : decide ((0 : Int) < ((y :: r).length : Int)) = true := by simp <;> omega
  have l1 : (y :: r).reverse ++ x :: B = (r.reverse ++ [y]) ++ x :: B := by simp
  have l2 : (r.reverse ++ [y]) ++ x :: B = r.reverse ++ y :: (x :: B) := by simp
  have i1 : ixO ((r.reverse ++ [y]) ++ x :: B) ((y :: r).length : Int) = some x := xe (by simp)
  have i2 : ixO ((r.reverse ++ [y]) ++ x :: B) (((y :: r).length : Int) - 1) = some y := by rw [l2]; exact xe (by simp)
  obtain ⟨c, c1, c2⟩ := hc y List.mem_cons_self;rw [s234_l2, l1];simp only [e, cond_true, i1, i2, bindO, c1, Bool.true_and, c2]
  cases hl : lt x y with
  | true =>
   have e1 : List.set ((r.reverse ++ [y]) ++ x :: B) (Int.toNat ((y :: r).length : Int)) y = (r.reverse ++ [y]) ++ y :: B := xg (by simp)
   have e2 : List.set ((r.reverse ++ [y]) ++ y :: B) (Int.toNat (((y :: r).length : Int) - 1)) x = r.reverse ++ x :: (y :: B) := by
    rw [show (r.reverse ++ [y]) ++ y :: B = r.reverse ++ y :: (y :: B) by simp];exact xg (by simp)
   have e3 : (((y :: r).length : Int) - 1) = (r.length : Int) := by simp
   have hih := qdw rec1 cmp lt x1 x r (y :: B) k (by simp at h; omega) (fun z hz => hc z (List.mem_cons_of_mem _ hz))
   have i3 : ixO (List.set ((r.reverse ++ [y]) ++ x :: B) (Int.toNat ((y :: r).length : Int)) y) (((y :: r).length : Int) - 1) = some y := by
    rw [e1, show (r.reverse ++ [y]) ++ y :: B = r.reverse ++ y :: (y :: B) by simp];exact xe (by simp)
   rw [cond_true];simp only [i3];rw [e1, e2, e3, hih]
   simp [insB, hl]
  | false =>
   rw [cond_false]
   simp [insB, hl]
theorem qdx (cmp : S151 → S151 → Option Int) (lt : S151 → S151 → Bool) : ∀ (l P : List S151), (∀ y ∈ P ++ l, ∀ x ∈ l, ∃ c, cmp x y = some c ∧ decide (c < 0) = lt x y) → s234_l1 0 cmp l.length (P.length : Int) (P.reverse ++ l) = some (insS lt P l)
 | [], P, _ => by rw [List.length_nil, s234_l1, insS, List.append_nil]
 | x :: l, P, h => by
  rw [List.length_cons, s234_l1, qdw _ cmp lt _ x P l _ (by omega) (fun y hy => h y (List.mem_append_left _ hy) x List.mem_cons_self), insS]
  have := qdx cmp lt l (insB lt x P) (fun y hy z hz => h y (by
   rcases List.mem_append.1 hy with hy | hy
   ·rcases List.mem_cons.1 ((v8 lt x P).mem_iff.1 hy) with rfl | hy
    ·simp
    ·simp [hy]
   ·simp [hy]) z (List.mem_cons_of_mem _ hz))
  rw [← this, qi8]
  simp
theorem qru {cmp : S151 → S151 → Option Int} {lt : S151 → S151 → Bool} {l : List S151} (h : ∀ y ∈ l, ∀ x ∈ l, ∃ c, cmp x y = some c ∧ decide (c < 0) = lt x y) : s234 l 0 (l.length : Int) cmp = some (isort lt l) := by
 unfold s234 isort
 cases l with
 | nil => rfl
 | cons x l =>
  have e : ((((x :: l).length : Int) - (0 + 1)).toNat) = l.length := by simp
  rw [e, insS];exact qdx cmp lt l [x] (fun y hy z hz => h y hy z (List.mem_cons_of_mem _ hz))
theorem qly {cmp : Int → Int → Option Int} {lt : Int → Int → Bool} {l : List Int} (h : ∀ y ∈ l, ∀ x ∈ l, ∃ c, cmp x y = some c ∧ decide (c < 0) = lt x y) : s203 l cmp = some (isort lt l) := by
 unfold s203 s233;rw [s233_l1, qrt h];simp only [bindO];rw [s233_l2]
theorem ql0 {cmp : S151 → S151 → Option Int} {lt : S151 → S151 → Bool} {l : List S151} (h : ∀ y ∈ l, ∀ x ∈ l, ∃ c, cmp x y = some c ∧ decide (c < 0) = lt x y) : s174 l cmp = some (isort lt l) := by
 unfold s174 s205;rw [s205_l1, qru h];simp only [bindO]
end Go.Sim
set_option maxRecDepth 10000
namespace Go.Sim
open Go.Proofs
def s40 (a0 : S45) : Int :=
 (bif (decide ((s109 a0.fFrom) ≠ 0)) || (decide ((s109 a0.fTo) ≠ 0)) then 3 else (bif decide (a0.fTo < a0.fFrom) then 11 else (bif decide (400 < IntKind.i64.wrap (a0.fTo - a0.fFrom)) then 4 else (s90 a0.Days 1 127))))
theorem c40 {g : List (Nat × List Value)} (a0 : S45)    : Con (EG g) 40 [G.agg [G.int a0.fFrom, G.int a0.fTo, G.int a0.Days]] (G.int (s40 a0)) := by
 generalize hR : s40 a0 = R;unfold s40 at hR;refine qp Tryz.func40 rfl rfl fun w0 M0 => ?_;refine qb (qa [.p, .p] (su (zo rfl rfl) rfl (sa rfl rfl (qc (qb (qb ?_))))));refine qa [.p, .p, .p, .p, .p, .p, .p, .p, .p, .p] (su (qe rfl qbj rfl) rfl (su (qg rfl ty3 rfl) rfl (su (qf rfl K109 rfl (c109 a0.fFrom) (qd rfl qk)) rfl (su (zw rfl rfl rfl) rfl (sm rfl rfl (sg rfl rfl (fun h => qe rfl qaa rfl) rfl ?_))))));refine sg rfl rfl (fun h => qg rfl ty3 (gd h rfl)) rfl (sg rfl rfl (fun h => qf rfl K109 rfl (c109 a0.fTo) (qd (gd h rfl) qk)) rfl (sg rfl rfl (fun h => zw rfl (gd h rfl) rfl) rfl (su (ju rfl rfl rfl rfl) rfl (qc (qi _ rfl (fun h1 => ?_) (fun h1 => ?_))))))
 ·replace hR := zl hR h1;refine qb (qa [.p] (sa rfl rfl (qc (qo ?_))));subst hR;exact zd rfl (rv_g rfl)
 ·replace h1 : ((decide ((s109 a0.fFrom) ≠ 0)) || (decide ((s109 a0.fTo) ≠ 0))) = false := h1;replace hR := zt hR h1;(try simp only [bB] at h1);refine qm (qb (qb (qa [.p, .p, .p, .p, .p] (su (qe rfl qaa rfl) rfl (su (qg rfl ty3 rfl) rfl (su (qe rfl qbj rfl) rfl ?_))))));refine su (qg rfl ty3 rfl) rfl (su (qy rfl rfl rfl) rfl (qc (qi _ rfl (fun h2 => ?_) (fun h2 => ?_))))
  ·replace hR := zl hR h2;refine qb (qa [.p] (sa rfl rfl (qc (qo ?_))));subst hR;exact zd rfl (rv_g rfl)
  ·replace h2 : (decide (a0.fTo < a0.fFrom)) = false := h2;replace hR := zt hR h2;(try simp only [bB] at h2);refine qm (qb (qb (qa [.p, .p, .p, .p, .p, .p] (su (qe rfl qaa rfl) rfl (su (qg rfl ty3 rfl) rfl (su (qe rfl qbj rfl) rfl ?_))))));refine su (qg rfl ty3 rfl) rfl (su (jn rfl rfl rfl) rfl (su (jh rfl rfl rfl) rfl (qc (qi _ rfl (fun h3 => ?_) (fun h3 => ?_)))))
   ·replace hR := zl hR h3;refine qb (qa [.p] (sa rfl rfl (qc (qo ?_))));subst hR;exact zd rfl (rv_g rfl)
   ·replace hR := zt hR h3;refine qm (qb (qa [.p, .p, .p, .p] (su (qe rfl qls rfl) rfl (su (qg rfl ty3 rfl) rfl (su (qf rfl K90 rfl (c90 a0.Days 1 127) (qd rfl (qd rfl (qd rfl qk)))) rfl (sa rfl rfl ?_))))));refine qc (qo ?_);subst hR;exact zd rfl (rv_g rfl)
def s180 (a0 : Int) : Int :=
 Int.tmod (IntKind.i64.wrap (a0 + 5)) 7
end Go.Sim
set_option maxRecDepth 10000
namespace Go.Sim
open Go.Proofs
def s192_l1  : Nat → Int → Int → Bool
 | 0, x1, x2 => decide (Int.tmod x1 2 = 1)
 | k4 + 1, x1, x2 => s192_l1 k4 (IntKind.i64.wrap (Int.tdiv x1 2)) (x2 + 1)
def s192 (a0 : Int) (a1 : Int) : Bool :=
 s192_l1 ((a1 - 0).toNat) a0 0
def s157 (a0 : S45) (a1 : Int) : Bool :=
 ((decide (a0.fFrom ≤ a1)) && (decide (a1 ≤ a0.fTo))) && (s192 a0.Days (s180 a1))
def s104_j1 (rec1 : (List Int) → Int → List Int) (x2 : Int) (x4 : List Int) : List Int :=
 rec1 x4 (x2 + 1)
def s104_l1 (a0 : S45) : Nat → (List Int) → Int → List Int
 | 0, x1, x2 => x1
 | k3 + 1, x1, x2 => (bif (s157 a0 x2) then s104_j1 (fun z0_ z1_ => s104_l1 a0 k3 z0_ z1_) x2 (x1 ++ [x2]) else s104_j1 (fun z0_ z1_ => s104_l1 a0 k3 z0_ z1_) x2 x1)
def s104 (a0 : S45) : List Int :=
 s104_l1 a0 (((a0.fTo + 1) - a0.fFrom).toNat) [] a0.fFrom
def s32_l1 (a1 : List S151) : List S151 → Nat → Option Bool
 | [], k2 => some true
 | y3 :: t4, k2 => bindO (ixO a1 ((k2 : Nat) : Int)) fun y5 => (bif !(eqAnd [decide (y3.Name = y5.Name), decide (y3.Moment = y5.Moment), decide (y3.Kind = y5.Kind)]) then some false else s32_l1 a1 t4 (k2 + 1))
def s32 (a0 : List S151) (a1 : List S151) : Option Bool :=
 (bif decide ((List.length a0 : Int) ≠ (List.length a1 : Int)) then some false else s32_l1 a1 a0 0)
def s30 (a0 : ByteArray) (a1 : ByteArray) (a2 : S45) (a3 : Int) : Int :=
 (s89 [(s95 a0), (s97 a1), (s40 a2), (s90 a3 0 1439)])
def s31_l1 (a0 : ByteArray) (a1 : ByteArray) (a3 : Int) : List Int → Nat → (List S151) → List S151
 | [], k3, x1 => x1
 | y4 :: t5, k3, x1 => s31_l1 a0 a1 a3 t5 (k3 + 1) (x1 ++ [(S151.mk a0 (IntKind.i64.wrap ((IntKind.i64.wrap (1440 * y4)) + a3)) a1)])
def s31 (a0 : ByteArray) (a1 : ByteArray) (a2 : S45) (a3 : Int) : List S151 :=
 s31_l1 a0 a1 a3 (s104 a2) 0 []
theorem qor {l : List Int} (h : s84 l = 0) : ∀ x ∈ l, x = 0 := by
 have key : ∀ (l : List Int) (k : Nat), s84_l1 l k = 0 → ∀ x ∈ l, x = 0 := by
  intro l
  induction l with
  | nil => intro k _ x hx; cases hx
  | cons y l ih =>
   intro k h x hx;rw [s84_l1] at h
   by_cases hy : y = 0
   ·subst hy
    simp at h
    rcases List.mem_cons.1 hx with rfl | hx
    ·rfl
    ·exact ih _ h x hx
   ·simp [hy] at h
 exact key l 0 h
theorem qoq {a b c : Int} (h : s85 a b c = 0) : b ≤ a ∧ a ≤ c := by
 unfold s85 s86 at h
 by_cases h1 : a < b
 ·simp [h1] at h
 ·by_cases h2 : c < a
  ·simp [h2] at h
  ·omega
end Go.Sim
set_option maxRecDepth 10000
namespace Go.Sim
open Go.Proofs
def s29 (a0 : ByteArray) (a1 : ByteArray) (a2 : S45) (a3 : Int) : (List S151) × Int :=
 (bif decide ((s84 [(s87 a0), (s101 a1), (s102 a2), (s85 a3 0 1439)]) ≠ 0) then ([], (s84 [(s87 a0), (s101 a1), (s102 a2), (s85 a3 0 1439)])) else (slotsL a0 a1 (momL a3 (dayL a2.Days (a2.fTo + 1 - a2.fFrom).toNat a2.fFrom)), 0))
theorem qmf (p : S45) : s102 p = s40 p := by
 unfold s102 s40
 have e : ∀ l, s152 l = s89 l := fun l => by
  unfold s152 s89;generalize 0 = k
  induction l generalizing k with
  | nil => rfl
  | cons x l ih => rw [s152_l1, s89_l1, ih]
 simp only [e, qbu, wn, s153, s155, s109, s90, s154]
 by_cases h1 : p.fFrom < 0 <;> by_cases h1' : 99999 < p.fFrom <;> by_cases h2 : p.fTo < 0 <;> by_cases h2' : 99999 < p.fTo <;> simp only [h1, h1', h2, h2', decide_true, decide_false, Bool.or_true, Bool.true_or, Bool.or_false, cond_true, cond_false] <;> try rfl
 by_cases h3 : p.fTo < p.fFrom <;> by_cases h4 : 400 < IntKind.i64.wrap (p.fTo - p.fFrom) <;> by_cases h5 : p.Days < 1 <;> by_cases h6 : 127 < p.Days <;> simp [h3, h4, h5, h6]
set_option maxRecDepth 100000 in
theorem qo0 : ∀ m : Fin 128, ∀ w : Fin 7, s192 (m.1 : Int) (w.1 : Int) = decide (andI (shrI (m.1 : Int) (w.1 : Int)) 1 = 1) := by decide +kernel
theorem qrv {m d : Int} (h1 : 1 ≤ m) (h2 : m ≤ 127) (h3 : 0 ≤ d) (h4 : d ≤ 1000000) : s192 m (s180 d) = inM m d := by
 have hw : s180 d = (d + 5) % 7 := by
  unfold s180;rw [wrap_i64 (by unfold I64; omega), Int.tmod_eq_emod_of_nonneg (by omega)]
 rw [hw];have := qo0 ⟨m.toNat, by omega⟩ ⟨((d + 5) % 7).toNat, by omega⟩;simp only at this;rw [Int.toNat_of_nonneg (by omega), Int.toNat_of_nonneg (by omega)] at this;exact this
theorem qgg (p : S45) (h1 : 1 ≤ p.Days) (h2 : p.Days ≤ 127) (h3 : 0 ≤ p.fFrom) (h4 : p.fTo ≤ 99999) : ∀ (n : Nat) (x : List Int) (d : Int), p.fFrom ≤ d → n = (p.fTo + 1 - d).toNat → s104_l1 p n x d = x ++ dayL p.Days n d
 | 0, x, d, _, _ => by simp [s104_l1, dayL]
 | n + 1, x, d, hd, hn => by
  rw [s104_l1, dayL]
  have hs : s157 p d = inM p.Days d := by
   unfold s157;rw [qrv h1 h2 (by omega) (by omega), decide_eq_true (by omega), decide_eq_true (by omega)]
   simp
  rw [hs];unfold s104_j1;have ih := fun x => qgg p h1 h2 h3 h4 n x (d + 1) (by omega) (by omega);show (bif inM p.Days d then s104_l1 p n (x ++ [d]) (d + 1) else s104_l1 p n x (d + 1)) = _;rw [ih, ih]
  cases inM p.Days d <;> simp
theorem xv (p : S45) (h : s102 p = 0) : s104 p = dayL p.Days (p.fTo + 1 - p.fFrom).toNat p.fFrom := by
 obtain ⟨q1, q2, q3, q4, q5, q6⟩ := period_ok p h;unfold s104;rw [qgg p q5 q6 q1 q3 _ _ _ (Int.le_refl _) rfl]; rfl
theorem w5 (m : Int) : ∀ (n : Nat) (f : Int), ∀ d ∈ dayL m n f, f ≤ d ∧ d < f + n
 | 0, f, d, h => by simp [dayL] at h
 | n + 1, f, d, h => by
  unfold dayL at h
  split at h
  ·rcases List.mem_cons.1 h with rfl | h
   ·omega
   ·have := w5 m n _ d h; omega
  ·have := w5 m n _ d h; omega
end Go.Sim
set_option maxRecDepth 10000
namespace Go.Sim
open Go.Proofs
noncomputable def s4 (a0 : S47) : Option Bool :=
 (bif ((!s16) || (decide (60 < (ByteArray.size a0.Name : Int)))) || (decide (60 < (ByteArray.size a0.Kind : Int))) then some s16 else (bif decide ((s30 a0.Name a0.Kind (S45.mk a0.Period.fFrom a0.Period.fTo a0.Period.Days) a0.Minute) = 0) then bindO (s32 (s20 ((s29 a0.Name a0.Kind (S45.mk a0.Period.fFrom a0.Period.fTo a0.Period.Days) a0.Minute).1)) (s31 a0.Name a0.Kind (S45.mk a0.Period.fFrom a0.Period.fTo a0.Period.Days) a0.Minute)) fun r1 => some (r1 && (decide ((s29 a0.Name a0.Kind (S45.mk a0.Period.fFrom a0.Period.fTo a0.Period.Days) a0.Minute).2 = (s30 a0.Name a0.Kind (S45.mk a0.Period.fFrom a0.Period.fTo a0.Period.Days) a0.Minute)))) else bindO (s32 (s20 ((s29 a0.Name a0.Kind (S45.mk a0.Period.fFrom a0.Period.fTo a0.Period.Days) a0.Minute).1)) []) fun r2 => some (r2 && (decide ((s29 a0.Name a0.Kind (S45.mk a0.Period.fFrom a0.Period.fTo a0.Period.Days) a0.Minute).2 = (s30 a0.Name a0.Kind (S45.mk a0.Period.fFrom a0.Period.fTo a0.Period.Days) a0.Minute))))))
def lenL : List Int := [31, 28, 31, 30, 31, 30, 31, 31, 30, 31, 30, 31]
theorem qof (n : Int) : -9223372036854775808 ≤ IntKind.i64.wrap n ∧ IntKind.i64.wrap n ≤ 9223372036854775807 := by rw [IntKind.wrap_i64]; omega
theorem qud (f : S104 → S151) (l : List S104) (k : Nat) (x : List S151) : s170_l1 f l k x = x ++ l.map f := by
 induction l generalizing k x with
 | nil => simp [s170_l1]
 | cons y l ih => rw [s170_l1, ih]; simp
theorem qer (l : List S104) (f : S104 → S151) : s170 l f = l.map f := by unfold s170; rw [qud]; rfl
theorem que (f : S104 → Bool) (l : List S104) (k : Nat) (x : List S104) : s171_l1 f l k x = x ++ l.filter f := by
 induction l generalizing k x with
 | nil => simp [s171_l1]
 | cons y l ih =>
  rw [s171_l1]
  cases h : f y
  ·simp only [cond_false, s171_j1, ih];rw [List.filter_cons, if_neg (by simp [h])]
  ·simp only [cond_true, s171_j1, ih];rw [List.filter_cons, if_pos h]; simp
theorem qes (l : List S104) (f : S104 → Bool) : s171 l f = l.filter f := by unfold s171; rw [que]; rfl
theorem qqa (l : List S104) (f : S104 → S151) : (s170 l f).length = l.length := by rw [qer, List.length_map]
theorem qqb (l : List S104) (f : S104 → Bool) : (s171 l f).length ≤ l.length := by rw [qes]; exact List.length_filter_le _ _
end Go.Sim
set_option maxRecDepth 10000
namespace Go.Sim
open Go.Proofs
def s121 (a0 : List S104) : Option (List S151) :=
 bindO (s174 (s170 (s171 a0 s172) s173) (fun x0_ x1_ => some (s175 x0_ x1_))) fun r1 => some r1
theorem quf {a : List S104} {r : List S151} (h : s121 a = some r) : r.length ≤ a.length := by
 unfold s121 at h;obtain ⟨y, h1, h⟩ := qj h
 cases h
 have g1 := qp9 h1;have g2 := qqa (s171 a s172) s173;have g3 := qqb a s172
 omega
end Go.Sim
set_option maxRecDepth 10000
namespace Go.Sim
open Go.Proofs
def s124_l2 (x2 : List Int) : List S154 → Nat → (List Int) → Option (List Int)
 | [], k14, x12 => some x12
 | y15 :: t16, k14, x12 => bindO (ixO x2 y15.Slot) fun y17 => bindO (ixO x12 y17) fun y18 => s124_l2 x2 t16 (k14 + 1) (List.set x12 (Int.toNat y17) 1)
def s124_j1 (rec1 : Nat → (List S151) → (List Int) → (List Int) → Option (List Int)) (k6 : Nat) (x19 : List S151) (x20 : List Int) (x21 : List Int) : Option (List Int) :=
 rec1 (k6 + 1) x19 x20 x21
def s124_j2 (rec1 : Nat → (List S151) → (List Int) → (List Int) → Option (List Int)) (x1 : List S151) (x2 : List Int) (k6 : Nat) (y7 : S151) (x23 : List Int) : Option (List Int) :=
 s124_j1 rec1 k6 (x1 ++ [y7]) (x2 ++ [((k6 : Nat) : Int)]) x23
def s124_l1 (a0 : S23) (a2 : List S104) : List S151 → Nat → (List S151) → (List Int) → (List Int) → Option (List Int)
 | [], k6, x1, x2, x4 => bindO (s121 a2) fun r9 => bindO (s115 a0 x1 r9) fun r10 => s124_l2 x2 r10 0 x4
 | y7 :: t8, k6, x1, x2, x4 => (bif (s177 a0 y7 a2) then bindO (ixO x4 ((k6 : Nat) : Int)) fun y25 => s124_j1 (fun k_ z0_ z1_ z2_ => s124_l1 a0 a2 t8 k_ z0_ z1_ z2_) k6 x1 x2 (List.set x4 (Int.toNat ((k6 : Nat) : Int)) 0) else (bif (s178 a0 y7 a2) then bindO (ixO x4 ((k6 : Nat) : Int)) fun y26 => s124_j2 (fun k_ z0_ z1_ z2_ => s124_l1 a0 a2 t8 k_ z0_ z1_ z2_) x1 x2 k6 y7 (List.set x4 (Int.toNat ((k6 : Nat) : Int)) 2) else bindO (ixO x4 ((k6 : Nat) : Int)) fun y27 => s124_j2 (fun k_ z0_ z1_ z2_ => s124_l1 a0 a2 t8 k_ z0_ z1_ z2_) x1 x2 k6 y7 (List.set x4 (Int.toNat ((k6 : Nat) : Int)) 3)))
def s124 (a0 : S23) (a1 : List S151) (a2 : List S104) : Option (List Int) :=
 s124_l1 a0 a2 a1 0 [] [] (List.replicate (List.length a1) 0)
end Go.Sim
set_option maxRecDepth 10000
namespace Go.Sim
open Go.Proofs
def s58_l1  : List Int → Nat → Int → Int → Option (S55 × Int)
 | [], k5, x3, x4 => some ((S55.mk x3 x4), 0)
 | y6 :: t7, k5, x3, x4 => s58_l1  t7 (k5 + 1) ((s126 (S55.mk x3 x4) y6).Flown) ((s126 (S55.mk x3 x4) y6).Due)
end Go.Sim
set_option maxRecDepth 10000
namespace Go.Sim
open Go.Proofs
def s127 (a0 : S151) (a1 : S151) : Bool :=
 (bif decide (a0.Moment ≠ a1.Moment) then decide (a0.Moment < a1.Moment) else (bif !decide (a0.Name = a1.Name) then strLt a0.Name a1.Name else strLt a0.Kind a1.Kind || decide (a0.Kind = a1.Kind)))
def s179 (a0 : S104) (a1 : S151) : Bool :=
 (((decide (a0.Kind = (⟨#[119, 101, 97, 116, 104, 101, 114]⟩))) || (decide (a0.Name = a1.Name))) && (decide (a0.fFrom ≤ IntKind.i64.wrap (Int.tdiv a1.Moment 1440)))) && (decide (IntKind.i64.wrap (Int.tdiv a1.Moment 1440) ≤ a0.fTo))
def s128_l1 (a0 : S23) (a1 : S151) : List S104 → Nat → Bool
 | [], k2 => false
 | y3 :: t4, k2 => (bif ((decide (y3.Kind = (⟨#[98, 97, 99, 107]⟩))) && (s179 y3 a1)) && (decide (IntKind.i64.wrap (y3.Told + a0.Notice) ≤ IntKind.i64.wrap (Int.tdiv a1.Moment 1440))) then true else s128_l1 a0 a1 t4 (k2 + 1))
def s128 (a0 : S23) (a1 : S151) (a2 : List S104) : Bool :=
 s128_l1 a0 a1 a2 0
def s129_l1 (a0 : S23) (a1 : S151) : List S104 → Nat → Bool
 | [], k2 => false
 | y3 :: t4, k2 => (bif (s179 y3 a1) && ((decide (y3.Kind = (⟨#[119, 101, 97, 116, 104, 101, 114]⟩))) || ((decide (y3.Kind = (⟨#[99, 97, 110, 99, 101, 108]⟩))) && (s92 a0.Causes y3.Cause))) then true else s129_l1 a0 a1 t4 (k2 + 1))
def s129 (a0 : S23) (a1 : S151) (a2 : List S104) : Bool :=
 s129_l1 a0 a1 a2 0
def idxs (n : Nat) : List Int := List.map (fun i : Nat => (i : Int)) (List.range n)
theorem xu (n : Nat) : (idxs n).length = n := by simp [idxs]
theorem qax {n : Nat} {i : Int} : i ∈ idxs n ↔ 0 ≤ i ∧ i.toNat < n := by
 simp only [idxs, List.mem_map, List.mem_range]
 constructor
 ·rintro ⟨a, h, rfl⟩; simp; exact h
 ·rintro ⟨h1, h2⟩; exact ⟨i.toNat, h2, by omega⟩
theorem qca (n : Nat) : idxs (n + 1) = idxs n ++ [(n : Int)] := by simp [idxs, List.range_succ]
theorem qmg (n : Nat) : (idxs n).Pairwise (· < ·) := by
 unfold idxs;rw [List.pairwise_map]
 exact List.pairwise_lt_range.imp fun h => by omega
theorem qkm (n : Nat) : (idxs n).Nodup := (qmg n).imp fun h => by omega
theorem qug {α : Type} {l : List α} {i : Int} (h0 : 0 ≤ i) (h : i.toNat < l.length) : ixO l i = some l[i.toNat] := by
 unfold ixO; rw [decide_eq_true h0, cond_true, List.getElem?_eq_getElem h]
theorem wm {α : Type} {l : List α} {i : Int} (h : i ∈ idxs l.length) : ∃ x, ixO l i = some x ∧ l[i.toNat]? = some x := by
 obtain ⟨h1, h2⟩ := qax.1 h;exact ⟨_, qug h1 h2, List.getElem?_eq_getElem h2⟩
theorem qbd {α : Type} {l : List α} {i : Nat} {x : α} (h : l[i]? = some x) : ixO l (i : Int) = some x := by
 unfold ixO; rw [decide_eq_true (by omega), cond_true]; simpa using h
def momI (l : List S151) (i : Int) : Int := match l[i.toNat]? with
 | some s => s.Moment
 | none => 0
theorem qet {l : List S151} {i : Int} {x : S151} (h : l[i.toNat]? = some x) : momI l i = x.Moment := by unfold momI; rw [h]
def RelM (l : List S151) (i j : Int) : Prop := momI l i < momI l j ∨ (momI l i = momI l j ∧ i < j)
theorem RelM.tr {l : List S151} (a b c : Int) (h : RelM l a b) (k : RelM l b c) : RelM l a c := by unfold RelM at *; omega
theorem RelM.as {l : List S151} {a b : Int} (h : RelM l a b) (k : RelM l b a) : False := by unfold RelM at *; omega
def ordI (l : List S151) : List Int := isort (fun i j => decide (momI l i < momI l j)) (idxs l.length)
theorem qgh (l : List S151) : (ordI l).Perm (idxs l.length) := qkk _ _
theorem qeu {l : List S151} {i : Int} : i ∈ ordI l ↔ i ∈ idxs l.length := (qgh l).mem_iff
theorem qhx (l : List S151) : (ordI l).Pairwise (RelM l) := by
 refine qbm RelM.tr ((qmg l.length).imp ?_);intro y x hyx;simp only [decide_eq_true_eq, decide_eq_false_iff_not];unfold RelM
 constructor <;> intro h <;> omega
theorem qhy {l : List S151} {Q : List Int} (hp : Q.Perm (idxs l.length)) (hs : Q.Pairwise (RelM l)) : Q = ordI l :=
 qaw (hp.trans (qgh l).symm) hs (qhx l) fun _ _ _ _ h k => (RelM.as h k).elim
theorem qlz (a b : Int) : decide (s167 a b < 0) = decide (a < b) := by
 have h : ∀ x, s202 x = false := fun x => by unfold s202; simp
 unfold s167;rw [h, h]
 by_cases h1 : a < b
 ·simp [h1]
 ·by_cases h2 : b < a <;> simp [h1, h2]
theorem qgi (l : List S151) : ∀ (rest : List S151) (k : Nat), s168_l1 l rest k (idxs k ++ List.replicate rest.length 0) = s168_l1 l [] (k + rest.length) (idxs (k + rest.length))
 | [], k => by simp
 | y :: rest, k => by
  have h1 : ixO (idxs k ++ List.replicate (y :: rest).length 0) ((k : Nat) : Int) = some 0 := by
   rw [List.length_cons, List.replicate_succ]; exact xe (by rw [xu])
  have h2 : List.set (idxs k ++ List.replicate (y :: rest).length 0) (Int.toNat ((k : Nat) : Int)) ((k : Nat) : Int) = idxs (k + 1) ++ List.replicate rest.length 0 := by
   rw [List.length_cons, List.replicate_succ, xg (by rw [xu]; simp), qca]
   simp
  conv => lhs; rw [s168_l1, h1]
  simp only [bindO];rw [h2, qgi l rest (k + 1), List.length_cons]
  have e : k + 1 + rest.length = k + (rest.length + 1) := by omega
  rw [e]
theorem qmh (l : List S151) : s168 l = some (ordI l) := by
 unfold s168;have := qgi l l 0;simp only [Nat.zero_add] at this;rw [show List.replicate l.length (0 : Int) = idxs 0 ++ List.replicate l.length 0 by simp [idxs], this, s168_l1];rw [qly (lt := fun i j => decide (momI l i < momI l j)) (fun y hy x hx => ?_)]
 ·rfl
 ·obtain ⟨a, ha, ha'⟩ := wm hx;obtain ⟨b, hb, hb'⟩ := wm hy;refine ⟨s167 a.Moment b.Moment, ?_, ?_⟩
  ·simp only [s204, ha, hb, bindO]
  ·rw [qlz, qet ha', qet hb']
theorem qqc : ∀ x : List UInt8, Op.bytesLess x x = false
 | [] => rfl
 | a :: x => by simp [Op.bytesLess, qqc x]
theorem quh : ∀ x y z : List UInt8, Op.bytesLess x y = true → Op.bytesLess y z = true → Op.bytesLess x z = true
 | _, _, [], _, h => by cases ‹List UInt8› <;> simp [Op.bytesLess] at h
 | _, [], _ :: _, h, _ => by cases ‹List UInt8› <;> simp [Op.bytesLess] at h
 | [], _ :: _, _ :: _, _, _ => rfl
 | a :: x, b :: y, c :: z, h, k => by
  simp only [Op.bytesLess, Bool.or_eq_true, decide_eq_true_eq, Bool.and_eq_true, beq_iff_eq] at h k ⊢
  rcases h with h | ⟨rfl, h⟩
  ·rcases k with k | ⟨rfl, k⟩
   ·exact .inl (UInt8.lt_trans h k)
   ·exact .inl h
  ·rcases k with k | ⟨rfl, k⟩
   ·exact .inl k
   ·exact .inr ⟨rfl, quh x y z h k⟩
theorem qqd : ∀ x y : List UInt8, Op.bytesLess x y = false → Op.bytesLess y x = false → x = y
 | [], [], _, _ => rfl
 | [], _ :: _, h, _ => by simp [Op.bytesLess] at h
 | _ :: _, [], _, h => by simp [Op.bytesLess] at h
 | a :: x, b :: y, h, k => by
  simp only [Op.bytesLess, Bool.or_eq_false_iff, decide_eq_false_iff_not, Bool.and_eq_false_iff, beq_eq_false_iff_ne] at h k;have e : a = b := UInt8.le_antisymm (UInt8.not_lt.1 k.1) (UInt8.not_lt.1 h.1);subst e;rw [qqd x y (h.2.resolve_left fun g => g rfl) (k.2.resolve_left fun g => g rfl)]
theorem qgj (a : ByteArray) : strLt a a = false := qqc _
theorem qrw {a b c : ByteArray} (h : strLt a b = true) (k : strLt b c = true) : strLt a c = true := quh _ _ _ h k
theorem qjc {a b : ByteArray} (h : strLt a b = false) (k : strLt b a = false) : a = b := by
 have := qqd _ _ h k;have e := toList_inj (s := a) (s' := b);rw [this] at e
 simpa using e.symm
theorem qui {a b : ByteArray} (h : strLt a b = true) (k : strLt b a = true) : False := by
 have := qrw h k;rw [qgj] at this; cases this
theorem vc (a b : S151) : s127 a b = true ↔ a.Moment < b.Moment ∨ (a.Moment = b.Moment ∧ (strLt a.Name b.Name = true ∨ (a.Name = b.Name ∧ (strLt a.Kind b.Kind = true ∨ a.Kind = b.Kind)))) := by
 unfold s127
 by_cases h : a.Moment = b.Moment
 ·rw [decide_eq_false (by simpa using h), cond_false]
  by_cases g : a.Name = b.Name
  ·simp [h, g, qgj]
  ·simp [h, g]
 ·rw [decide_eq_true h, cond_true]
  simp [h]
theorem qo1 {a b : S151} (h : s127 a b = false) : s127 b a = true := by
 have h' : ¬ s127 a b = true := by rw [h]; decide
 rw [vc] at h' ⊢
 by_cases hm : a.Moment = b.Moment
 ·by_cases hn : a.Name = b.Name
  ·by_cases hk : a.Kind = b.Kind
   ·exact .inr ⟨hm.symm, .inr ⟨hn.symm, .inr hk.symm⟩⟩
   ·refine .inr ⟨hm.symm, .inr ⟨hn.symm, .inl ?_⟩⟩
    cases h1 : strLt b.Kind a.Kind
    ·cases h2 : strLt a.Kind b.Kind
     ·exact absurd (qjc h2 h1) hk
     ·exact absurd (.inr ⟨hm, .inr ⟨hn, .inl h2⟩⟩) h'
    ·rfl
  ·refine .inr ⟨hm.symm, .inl ?_⟩
   cases h1 : strLt b.Name a.Name
   ·cases h2 : strLt a.Name b.Name
    ·exact absurd (qjc h2 h1) hn
    ·exact absurd (.inr ⟨hm, .inl h2⟩) h'
   ·rfl
 ·left
  have : ¬ a.Moment < b.Moment := fun g => h' (.inl g)
  omega
theorem qrx (a b c : S151) (h : s127 a b = true) (k : s127 b c = true) : s127 a c = true := by
 rw [vc] at h k ⊢
 rcases h with h | ⟨h, h2⟩
 ·rcases k with k | ⟨k, _⟩
  ·left; omega
  ·left; omega
 ·rcases k with k | ⟨k, k2⟩
  ·left; omega
  ·refine .inr ⟨h.trans k, ?_⟩
   rcases h2 with h2 | ⟨h2, h3⟩
   ·rcases k2 with k2 | ⟨k2, _⟩
    ·exact .inl (qrw h2 k2)
    ·exact .inl (k2 ▸ h2)
   ·rcases k2 with k2 | ⟨k2, k3⟩
    ·exact .inl (h2 ▸ k2)
    ·refine .inr ⟨h2.trans k2, ?_⟩
     rcases h3 with h3 | h3
     ·rcases k3 with k3 | k3
      ·exact .inl (qrw h3 k3)
      ·exact .inl (k3 ▸ h3)
     ·rcases k3 with k3 | k3
      ·exact .inl (h3 ▸ k3)
      ·exact .inr (h3.trans k3)
theorem qmi (a b : ByteArray) : s133 a b = bif strLt a b then -1 else bif decide (a = b) then 0 else 1 := by
 have h : ∀ x, s183 x = false := fun x => by unfold s183; simp
 unfold s133;rw [h, h]
 cases h1 : strLt a b
 ·by_cases h2 : a = b <;> simp [h2]
 ·rfl
theorem qmj (a b : S151) : decide (s175 a b < 0) = !(s127 b a) := by
 have h0 : ∀ x, s202 x = false := fun x => by unfold s202; simp
 have hm : s167 a.Moment b.Moment = bif decide (a.Moment < b.Moment) then -1 else bif decide (b.Moment < a.Moment) then 1 else 0 := by
  unfold s167;rw [h0, h0]
  simp
 unfold s175 s176;rw [hm, qmi, qmi]
 by_cases hlt : a.Moment < b.Moment
 ·have : s127 b a = false := by
   cases hc : s127 b a
   ·rfl
   ·rw [vc] at hc; omega
  rw [this]
  simp [s176_l1, hlt]
 ·by_cases hgt : b.Moment < a.Moment
  ·have : s127 b a = true := by rw [vc]; exact .inl hgt
   rw [this]
   simp [s176_l1, hlt, hgt]
  ·have he : b.Moment = a.Moment := by omega
   simp only [decide_eq_false hlt, decide_eq_false hgt, cond_false]
   cases h1 : strLt a.Name b.Name
   ·by_cases hn : a.Name = b.Name
    ·cases h2 : strLt a.Kind b.Kind
     ·have : s127 b a = true := by
       rw [vc];refine .inr ⟨he, .inr ⟨hn.symm, ?_⟩⟩
       cases h3 : strLt b.Kind a.Kind
       ·exact .inr (qjc h3 h2)
       ·exact .inl rfl
      rw [this]
      by_cases hk : a.Kind = b.Kind <;> simp [s176_l1, hn, hk]
     ·have : s127 b a = false := by
       cases hc : s127 b a
       ·rfl
       ·rw [vc] at hc;have hc := (hc.resolve_left (by omega)).2
        rcases hc with hc | ⟨_, hc | hc⟩
        ·rw [hn, qgj] at hc; cases hc
        ·exact (qui h2 hc).elim
        ·rw [hc, qgj] at h2; cases h2
      rw [this]
      simp [s176_l1, hn]
    ·have : s127 b a = true := by
      rw [vc];refine .inr ⟨he, .inl ?_⟩
      cases h3 : strLt b.Name a.Name
      ·exact absurd (qjc h1 h3) hn
      ·rfl
     rw [this]
     simp [s176_l1, hn]
   ·have : s127 b a = false := by
     cases hc : s127 b a
     ·rfl
     ·rw [vc] at hc;have hc := (hc.resolve_left (by omega)).2
      rcases hc with hc | ⟨hc, _⟩
      ·exact (qui h1 hc).elim
      ·rw [hc, qgj] at h1; cases h1
    rw [this]
    simp [s176_l1]
def flyL (l : List S104) : List S151 := isort (fun a b => !(s127 b a)) ((l.filter s172).map s173)
theorem qhr (l : List S104) : (flyL l).Pairwise (fun a b => s127 a b = true) := by
 refine qbm qrx ?_;refine List.pairwise_of_forall fun y x => ?_;refine ⟨fun h => qo1 (by simpa using h), fun h => by simpa using h⟩
theorem ql1 (l : List S104) : s121 l = some (flyL l) := by
 unfold s121;rw [qes, qer, ql0 (lt := fun a b => !(s127 b a)) (fun y _ x _ => ⟨_, rfl, qmj x y⟩)]
 rfl
end Go.Sim
