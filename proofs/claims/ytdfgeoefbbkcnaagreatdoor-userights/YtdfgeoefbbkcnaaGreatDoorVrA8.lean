/-
  What is proved: lemmas and contracts of functions on the way to the law useRights (part 8).
-/
import Derived.Test.YtdfgeoefbbkcnaaGreatDoorVrA7
import Derived.Test.YtdfgeoefbbkcnaaGreatDoorVrA6
import Derived.Test.YtdfgeoefbbkcnaaGreatDoorVrA4
import Derived.ProofKit
import Derived.Test.YtdfgeoefbbkcnaaGreatDoorRows
import Derived.Test.YtdfgeoefbbkcnaaGreatDoorTie
import Derived.LaidMore
import Derived.OpenShut
import Derived.Stop.Joined
import Derived.Carry
import Derived.Test.YtdfgeoefbbkcnaaGreatDoorVrA5
set_option linter.unusedSectionVars false
set_option linter.unusedSimpArgs false
set_option linter.unusedVariables false
set_option linter.unnecessarySimpa false
set_option linter.deprecated false
namespace Go.Sim
open Go.Proofs Go.Ex
theorem ex16 : ∃ b : Bool, b = true := ⟨true, rfl⟩
noncomputable def s16 : Bool := ex16.choose
theorem qrx : s16 = true := ex16.choose_spec
theorem c16 : Con (EG glT) 16 [] (G.bool s16) := by
 obtain ⟨h', c', h⟩ := qnd qnr;rw [qrx];exact z8 (vs := []) qvs qyb (by decide) (wz (by decide)) h
end Go.Sim
set_option maxRecDepth 10000
namespace Go.Sim
open Go.Proofs
noncomputable def s3 (a0 : S23) (a1 : List S151) (a2 : List S104) : Bool :=
 (bif (((!s16) || (!(s17 (s18 a0)))) || (!(s19 (s20 a1) 6))) || (!(s21 (s22 a2) 6)) then s16 else ((decide ((s23 a0) = (s24 (s18 a0)))) && (decide ((s25 a1) = (s26 (s20 a1))))) && (decide ((s27 a2) = (s28 (s22 a2)))))
theorem qns {s : ByteArray} {i : Nat} (h : (s.get! i).toNat < 128) : Utf8.decode s i = ((s.get! i).toNat, 1) := by
 unfold Utf8.decode
 simp [h]
theorem qnt {s : ByteArray} {i : Nat} (h : 128 ≤ (s.get! i).toNat) : 128 ≤ (Utf8.decode s i).1 := by
 unfold Utf8.decode;simp only [Nat.add_zero];rw [if_neg (by omega)]
 repeat' split
 all_goals first | assumption | (simp [Utf8.runeError]; done) | (rename_i h2; simp only [Bool.and_eq_true, decide_eq_true_eq] at h2; have h3 := h2.1; dsimp only; omega)
theorem ql8 {s : ByteArray} {i : Nat} (h : i < s.data.toList.length) : s.get! i = s.data.toList[i] := by
 have h' : i < s.data.size := by simpa using h
 show s.data[i]! = _;rw [getElem!_pos s.data i h']
 simp
theorem qnu (s : ByteArray) : ∀ n pos, s.size ≤ pos + n → s147_l1 (runesF s n pos) = s91_l1 (s.data.toList.drop pos) pos := by
 intro n
 induction n with
 | zero =>
  intro pos h;rw [List.drop_eq_nil_of_le (by simpa using h)]; rfl
 | succ n ih =>
  intro pos h;unfold runesF
  split
  ·rename_i hp
   have hl : pos < s.data.toList.length := by simpa using hp
   rw [List.drop_eq_getElem_cons hl, s147_l1, s91_l1, ← ql8 hl]
   rcases Nat.lt_or_ge (s.get! pos).toNat 128 with hb | hb
   ·rw [qns hb, ih (pos + 1) (by omega)];have e1 : (decide (((pos : Nat) : Int) = 0)) = decide ((pos : Int) = 0) := rfl;dsimp only;rw [Bool.or_comm ((decide ((65 : Int) ≤ _)) && _)]
   ·have hb2 := qnt hb
    have c1 : (!(((decide ((65 : Int) ≤ ((Utf8.decode s pos).1 : Int))) && (decide (((Utf8.decode s pos).1 : Int) ≤ 90))) || ((decide ((97 : Int) ≤ ((Utf8.decode s pos).1 : Int))) && (decide (((Utf8.decode s pos).1 : Int) ≤ 122))))) = true := by
     simp; omega
    have c2 : (!(((decide ((97 : Int) ≤ ((s.get! pos).toNat : Int))) && (decide (((s.get! pos).toNat : Int) ≤ 122))) || ((decide ((65 : Int) ≤ ((s.get! pos).toNat : Int))) && (decide (((s.get! pos).toNat : Int) ≤ 90))))) = true := by
     simp; omega
    dsimp only;rw [c1, c2]
    have d1 : (decide (((Utf8.decode s pos).1 : Int) ≠ 95) && (decide (((Utf8.decode s pos).1 : Int) < 48) || decide (57 < ((Utf8.decode s pos).1 : Int)))) = true := by simp; omega
    have d2 : (decide (((s.get! pos).toNat : Int) ≠ 95) && (decide (((s.get! pos).toNat : Int) < 48) || decide (57 < ((s.get! pos).toNat : Int)))) = true := by simp; omega
    rw [d1, d2]; simp
  ·rename_i hp
   rw [List.drop_eq_nil_of_le (by simpa using hp)]; rfl
theorem qtg (s : ByteArray) : s147 s = s91 s := by
 unfold s147 s91 runes;rw [qnu s _ 0 (by omega)]; rfl
theorem qba (l : List Int) : s84 l = s89 l := by
 unfold s84 s89;generalize 0 = k
 induction l generalizing k with
 | nil => rfl
 | cons x l ih => rw [s84_l1, s89_l1, ih]
theorem wn : s89 [] = 0 := rfl
theorem qyk (l : List Int) (k k' : Nat) : s89_l1 l k = s89_l1 l k' := by
 induction l generalizing k k' with
 | nil => rfl
 | cons x l ih => rw [s89_l1, s89_l1, ih (k + 1) (k' + 1)]
theorem xq (x : Int) (l : List Int) : s89 (x :: l) = bif decide (x ≠ 0) then x else s89 l := by
 unfold s89; rw [s89_l1, qyk l 1 0]
theorem qnv (a b c : Int) : s85 a b c = s90 a b c := rfl
theorem qjf (s : ByteArray) : s87 s = s95 s := by unfold s87 s95 s86; rw [qtg]
theorem qko (s : ByteArray) : s101 s = s97 s := rfl
theorem qv6 (a : ByteArray) (l : List ByteArray) (k : Nat) : decide (0 ≤ s148_l1 a l k) = s92_l1 a l k := by
 induction l generalizing k with
 | nil => rfl
 | cons y l ih =>
  rw [s148_l1, s92_l1]
  by_cases h : a = y
  ·subst h; simp
  ·have h' : ¬ y = a := fun e => h e.symm;simp only [h, h', decide_false, cond_false]; exact ih _
theorem qjg (l : List ByteArray) (a : ByteArray) : s88 l a = s92 l a := qv6 a l 0
theorem qp8 (a : S23) (l : List ByteArray) (k : Nat) : s23_l1 a l k = s24_l1 a l k := by
 induction l generalizing k with
 | nil => rw [s23_l1, s24_l1, qba]; rfl
 | cons y l ih =>
  rw [s23_l1, s24_l1, ih, qba, qjg, qjf];unfold s95 s86;simp only [xq, wn]
  cases s91 y <;> cases s92 (List.take (Int.toNat ((k : Nat) : Int)) a.Causes) y <;> simp
theorem qth (a : S23) : s23 a = s24 (s18 a) := by
 unfold s23 s24 s18;simp only [qba, qp8, qnv, xq, wn];unfold s86;generalize s90 a.Before 0 720 = x1;generalize s90 a.After 0 720 = x2;generalize s90 a.Notice 0 365 = x3;generalize s90 a.Share 1 100 = x4;generalize decide ((16 : Int) < (List.length a.Causes : Int)) = b;generalize s24_l1 a a.Causes 0 = y
 by_cases h1 : x1 = 0
 ·subst h1
  by_cases h2 : x2 = 0
  ·subst h2
   by_cases h3 : x3 = 0
   ·subst h3
    by_cases h4 : x4 = 0
    ·subst h4; cases b <;> simp
    ·simp [h4]
   ·simp [h3]
  ·simp [h2]
 ·simp [h1]
theorem qyl (l : List S104) (k : Nat) (x : List S104) : s22_l1 l k x = x ++ l := by
 induction l generalizing k x with
 | nil => simp [s22_l1]
 | cons y l ih => rw [s22_l1, ih]; simp
theorem qkp (l : List S104) : s22 l = l := by unfold s22; rw [qyl]; rfl
theorem qym (f : S104 → Int) (l : List S104) (k : Nat) (x : List Int) : s98_l1 f l k x = x ++ l.map f := by
 induction l generalizing k x with
 | nil => simp [s98_l1]
 | cons y l ih => rw [s98_l1, ih]; simp
theorem qp9 (h : ∀ x, s99 x = s100 x) (l : List S104) (k : Nat) : s89 (l.map s99) = s28_l1 l k := by
 induction l generalizing k with
 | nil => rfl
 | cons y l ih => rw [List.map_cons, xq, s28_l1, ih (k + 1), h]
theorem qqa (h : ∀ x, s99 x = s100 x) (l : List S104) : s27 l = s28 (s22 l) := by
 rw [qkp];unfold s27 s28 s98;rw [qym, qba, List.nil_append, qp9 h l 0]
def o (x y : Int) : Int := bif decide (x ≠ 0) then x else y
theorem o0l (y : Int) : o 0 y = y := rfl
theorem o0r (x : Int) : o x 0 = x := by unfold o; by_cases h : x = 0 <;> simp [h]
theorem o_as (x y z : Int) : o (o x y) z = o x (o y z) := by
 unfold o; by_cases h : x = 0
 ·subst h; simp
 ·simp [h]
theorem qnw (x : Int) (l : List Int) : s89 (x :: l) = o x (s89 l) := xq x l
theorem j2_o (x1 : Int) (x2 : ByteArray) (x3 : Int) (x4 : ByteArray) (x5 : Int) (x6 : Int) (x7 : ByteArray) (x8 : Int) : s100_j2 x1 x2 x3 x4 x5 x6 x7 x8 = o x1 (s86 ((!decide (x2 = (⟨#[]⟩ : ByteArray))) || decide (x3 ≠ 0) || (!decide (x4 = (⟨#[]⟩ : ByteArray))) || decide (x5 ≠ 0) || decide (x6 ≠ 0) || (!decide (x7 = (⟨#[]⟩ : ByteArray))) || decide (x8 ≠ 0)) 1) := by
 have e : (ByteArray.empty) = (⟨#[]⟩ : ByteArray) := rfl;unfold s100_j2 s100_j1 o s86;rw [e]
 by_cases h : x1 = 0
 ·subst h
  by_cases h2 : x2 = (⟨#[]⟩ : ByteArray) <;> by_cases h3 : x3 = 0 <;> by_cases h4 : x4 = (⟨#[]⟩ : ByteArray) <;> by_cases h5 : x5 = 0 <;> by_cases h6 : x6 = 0 <;> by_cases h7 : x7 = (⟨#[]⟩ : ByteArray) <;> by_cases h8 : x8 = 0 <;> simp [h2, h3, h4, h5, h6, h7, h8, eqAnd]
 ·simp [h]
theorem j5_o (a : S104) (x11 : Int) (x12 : ByteArray) : s100_j5 a x11 x12 = s100_j4 a x12 (o x11 (o (s109 a.fFrom) (o (s109 a.fTo) (s86 (decide (a.fTo < a.fFrom)) 11)))) := by
 unfold s100_j5;simp only [qnw, wn, o0r];rw [show o x11 (o (s109 a.fFrom) (o (s109 a.fTo) (s86 (decide (a.fTo < a.fFrom)) 11))) = o (o x11 (o (s109 a.fFrom) (s109 a.fTo))) (s86 (decide (a.fTo < a.fFrom)) 11) by simp only [o_as]];generalize o x11 (o (s109 a.fFrom) (s109 a.fTo)) = x;unfold o s86
 by_cases h : x = 0 <;> by_cases h2 : a.fTo < a.fFrom <;> simp [h, h2]
theorem qqb (x : Int) : s150 false x = 0 := rfl
theorem qqc (x : Int) : s150 true x = x := rfl
theorem qti (x : S104) : s99 x = s100 x := by
 unfold s99 s100;simp only [qba, qnw, wn, o0r, qjg, qjf, qko, s149, show ∀ y, s151 y = s109 y from fun _ => rfl, show ∀ y, s85 y 0 143999999 = s96 y from fun _ => rfl]
 by_cases h1 : x.Kind = ⟨#[102, 108, 121]⟩
 ·rw [h1]
  simp (decide := true) only [s92, s92_l1, j2_o, qqb, qqc, o0l, o_as, decide_true, decide_false, Bool.not_true, Bool.not_false, cond_true, cond_false, Bool.false_and, Bool.true_and, Bool.false_or, Bool.or_false, Bool.or_assoc]
 ·by_cases h2 : x.Kind = ⟨#[98, 97, 99, 107]⟩
  ·rw [h2]
   simp (decide := true) only [s92, s92_l1, s100_j6, j5_o, s100_j4, s100_j3, j2_o, qnw, wn, o0r, qqb, qqc, o0l, o_as, decide_true, decide_false, Bool.not_true, Bool.not_false, cond_true, cond_false, Bool.false_and, Bool.true_and, Bool.false_or, Bool.or_false, Bool.or_assoc, h2]
  ·by_cases h3 : x.Kind = ⟨#[99, 97, 110, 99, 101, 108]⟩
   ·rw [h3]
    simp (decide := true) only [s92, s92_l1, s100_j6, j5_o, s100_j4, s100_j3, j2_o, qnw, wn, o0r, qqb, qqc, o0l, o_as, decide_true, decide_false, Bool.not_true, Bool.not_false, cond_true, cond_false, Bool.false_and, Bool.true_and, Bool.false_or, Bool.or_false, Bool.or_assoc, h3]
   ·by_cases h4 : x.Kind = ⟨#[119, 101, 97, 116, 104, 101, 114]⟩
    ·rw [h4]
     simp (decide := true) only [s92, s92_l1, s100_j6, j5_o, s100_j4, s100_j3, j2_o, qnw, wn, o0r, qqb, qqc, o0l, o_as, decide_true, decide_false, Bool.not_true, Bool.not_false, cond_true, cond_false, Bool.false_and, Bool.true_and, Bool.false_or, Bool.or_false, Bool.or_assoc, h4]
    ·have e : s92 [⟨#[102, 108, 121]⟩, ⟨#[98, 97, 99, 107]⟩, ⟨#[99, 97, 110, 99, 101, 108]⟩, ⟨#[119, 101, 97, 116, 104, 101, 114]⟩] x.Kind = false := by
      simp [s92, s92_l1, fun (a b : ByteArray) => (eq_comm : a = b ↔ b = a), h1, h2, h3, h4]
     rw [e]; simp [h1, h2, h3, h4, s100_j6]
inductive Sh where
 | int | str | bool
 | sl (l : List Sh)
inductive Is : List Sh → List G → Prop
 | nil : Is [] []
 | int {l : List Sh} {gs : List G} (n : Int) (h : Is l gs) : Is (.int :: l) (G.int n :: gs)
 | str {l : List Sh} {gs : List G} (s : ByteArray) (h : Is l gs) : Is (.str :: l) (G.str s :: gs)
 | bool {l : List Sh} {gs : List G} (b : Bool) (h : Is l gs) : Is (.bool :: l) (G.bool b :: gs)
 | sl {l : List Sh} {gs : List G} {k : Nat} {m : List Sh} {xs : List (List G)} (hk : k = m.length) (hx : ∀ c ∈ xs, Is m c) (h : Is l gs) : Is (.sl m :: l) (G.sl k xs :: gs)
theorem Is.length {l : List Sh} {gs : List G} (h : Is l gs) : gs.length = l.length := by
 induction h <;> simp_all
theorem Is.append {l m : List Sh} {gs hs : List G} (h : Is l gs) (k : Is m hs) : Is (l ++ m) (gs ++ hs) := by
 induction h with
 | nil => exact k
 | int n _ ih => exact .int n ih
 | str s _ ih => exact .str s ih
 | bool b _ ih => exact .bool b ih
 | sl hk hx _ _ ih => exact .sl hk hx ih
theorem qfv {α : Type} {f : α → List G} : ∀ {xs : List (List G)}, (∀ c ∈ xs, ∃ x, c = f x) → ∃ l : List α, xs = l.map f
 | [], _ => ⟨[], rfl⟩
 | c :: xs, h => by
  obtain ⟨x, rfl⟩ := h _ (List.mem_cons_self ..);obtain ⟨l, rfl⟩ := qfv fun c hc => h c (List.mem_cons_of_mem _ hc);exact ⟨x :: l, rfl⟩
def fieldsSh (P : Program) (rec : TypeId → Option (List Sh)) : List Field → Nat → Nat → Option (List Sh)
 | [], o, tot => if o = tot then some [] else none
 | f :: fs, o, tot => if f.offset = o then (match rec f.type with
  | some l => if l.length = P.cellsOf f.type then (match fieldsSh P rec fs (o + l.length) tot with | some r => some (l ++ r) | none => none) else none
  | none => none) else none
def shOf (P : Program) : Nat → TypeId → Option (List Sh)
 | 0, _ => none
 | n + 1, t => match P.underlying t with
  | some (.int .i64) => some [.int]
  | some .string => some [.str]
  | some .bool => some [.bool]
  | some (.slice e) => match shOf P n e with
   | some l => if l.length = P.cellsOf e then some [.sl l] else none
   | none => none
  | some (.struct fs) => fieldsSh P (shOf P n) fs.toList 0 (P.cellsOf t)
  | _ => none
section
variable {H : Type} {enc : TypeId × Value → H} {P : Program} {w : World} {base : Nat} {spare : Nat → Bool} {held : Bool}
theorem qkq {M : Nat → Prop} : ∀ {gs : List G} {vs : List Value} {gs' : List G} {vs' : List Value}, Fits w M gs vs → Fits w M gs' vs' → Fits w M (gs ++ gs') (vs ++ vs')
 | [], [], _, _, _, h => h
 | _ :: _, _ :: _, _, _, h, k => ⟨h.1, qkq h.2 k⟩
 | [], _ :: _, _, _, h, _ => h.elim
 | _ :: _, [], _, _, h, _ => h.elim
theorem qkr {M : Nat → Prop} : ∀ {gs : List G} {vs : List Value}, Fits w M gs vs → vs.length = gs.length
 | [], [], _ => rfl
 | _ :: _, _ :: _, h => by simp [qkr h.2]
 | [], _ :: _, h => h.elim
 | _ :: _, [], h => h.elim
theorem qho {M : Nat → Prop} {b : Nat} : ∀ {gs gs' : List G} {o : Nat}, Cells w M b o gs → Cells w M b (o + gs.length) gs' → Cells w M b o (gs ++ gs')
 | [], _, _, _, k => k
 | g :: gs, gs', o, h, k => ⟨h.1, qho h.2 (by rw [show o + 1 + gs.length = o + (g :: gs).length by simp; omega]; exact k)⟩
theorem qbv {M : Nat → Prop} {b : Nat} : ∀ {gs : List G} {vs : List Value} {o : Nat}, Fits w M gs vs → (∀ i, i < vs.length → w.cell? ⟨b, o + i, none⟩ = vs[i]?) → Cells w M b o gs
 | [], [], _, _, _ => trivial
 | g :: gs, v :: vs, o, h, k => ⟨⟨v, by simpa using k 0 (by simp), h.1.1, h.1.2⟩, qbv h.2 fun i hi => by
   have := k (i + 1) (by simpa using hi)
   rw [show o + 1 + i = o + (i + 1) by omega, this]; rfl⟩
 | [], _ :: _, _, h, _ => h.elim
 | _ :: _, [], _, h, _ => h.elim
theorem qfw {k : Nat} : ∀ {xs : List (List G)}, (∀ c ∈ xs, c.length = k) → xs.flatten.length = xs.length * k
 | [], _ => by simp
 | c :: xs, h => by
  rw [List.flatten_cons, List.length_append, h c (List.mem_cons_self ..), qfw fun c hc => h c (List.mem_cons_of_mem _ hc), List.length_cons, Nat.succ_mul, Nat.add_comm]
def Reads (H : Type) (enc : TypeId × Value → H) (P : Program) (w : World) (base : Nat) (spare : Nat → Bool) (held : Bool) (t : TypeId) (l : List Sh) : Prop :=
 ∀ fuel cs x, DataW.trod enc P w base spare held fuel t cs = some x → ∃ gs, Is l gs ∧ Fits w (fun _ => False) gs cs
theorem qem {t e : TypeId} {l : List Sh} (ht : P.underlying t = some (.slice e)) (hl : l.length = P.cellsOf e) (ih : Reads H enc P w base spare held e l) {fuel : Nat} {cs : List Value} {x : DataW H × List MemPlace}
  (h : DataW.trod enc P w base spare held fuel t cs = some x) :
  ∃ xs : List (List G), (∀ c ∈ xs, Is l c) ∧ Fits w (fun _ => False) [G.sl l.length xs] cs ∧ (xs = [] ∨ ∃ elems rest, x.1 = .slice elems rest ∧ elems.length = xs.length) := by
 rcases DataW.trod_slice ht h with ⟨rfl, rfl⟩ | ⟨a, len, cap, elems, rest, n, _, rfl, rfl, _, hlc, hcm, hlen, hel, _, _⟩
 ·exact ⟨[], by simp, ⟨⟨⟨none, 0, rfl, Nat.le_refl _, by simp, by simp, .inl ⟨rfl, fun _ => rfl⟩⟩, rfl⟩, trivial⟩, .inl rfl⟩
 ·have hsp : 0 < len → l.length ≠ 0 → a.spot = none := by
   intro hp hz;have h5 := hel 0 hp;rw [List.getElem?_eq_getElem (by omega), Option.bind_eq_some_iff] at h5;obtain ⟨csm, h6, _⟩ := h5;obtain ⟨_, g1, g2⟩ := World.cells?_some h6;have c0 := g2 0 (by omega);rw [List.getElem?_eq_getElem (by omega)] at c0;unfold World.cell? at c0
   split at c0
   ·split at c0
    ·cases c0
    ·rename_i hs
     simpa [Addr.add] using hs
   ·cases c0
  have key : ∀ m, m ≤ len → ∃ xs : List (List G), xs.length = m ∧ (∀ c ∈ xs, Is l c) ∧ Cells w (fun _ => False) a.block a.off xs.flatten := by
   intro m
   induction m with
   | zero => intro _; exact ⟨[], rfl, by simp, trivial⟩
   | succ m im =>
    intro hm;obtain ⟨xs, h1, h2, h4⟩ := im (by omega);have h5 := hel m (by omega);rw [List.getElem?_eq_getElem (by omega), Option.bind_eq_some_iff] at h5;obtain ⟨csm, h6, h7⟩ := h5;obtain ⟨gs, h8, h9⟩ := ih _ _ _ h7;obtain ⟨_, g1, g2⟩ := World.cells?_some h6;have gl := qkr h9;have hx := h8.length;have hk : ∀ c ∈ xs, c.length = l.length := fun c hc => (h2 c hc).length;have fl := qfw hk;refine ⟨xs ++ [gs], by simp [h1], ?_, ?_⟩
    ·intro c hc
     rcases List.mem_append.1 hc with hc | hc
     ·exact h2 c hc
     ·rw [List.mem_singleton.1 hc]; exact h8
    ·rw [List.flatten_append];refine qho h4 ?_;rw [List.flatten_cons, List.flatten_nil, List.append_nil]
     by_cases hz : l.length = 0
     ·rw [List.eq_nil_of_length_eq_zero (hx.trans hz)]; trivial
     ·have hs := hsp (by omega) hz;refine qbv h9 fun i hi => ?_;have ci := g2 i (by omega);rw [← ci, fl, h1, hl]
      congr 1
      obtain ⟨ab, ao, as_⟩ := a;subst hs;simp only [Addr.add]
      split <;> split <;> simp_all
  obtain ⟨xs, h1, h2, h4⟩ := key len (Nat.le_refl _);refine ⟨xs, h2, ⟨⟨⟨some a, cap, by rw [h1], by omega, hcm, fun c hc => (h2 c hc).length, ?_⟩, rfl⟩, trivial⟩, .inr ⟨_, _, rfl, by simp [hlen, h1]⟩⟩
  by_cases hz : len = 0 ∨ l.length = 0
  ·refine .inl ⟨List.eq_nil_of_length_eq_zero ?_, fun e => by cases e⟩;rw [qfw fun c hc => (h2 c hc).length, h1]
   rcases hz with hz | hz <;> simp [hz]
  ·refine .inr ⟨a.block, a.off, ?_, fun h => h, h4⟩;have := hsp (by omega) (by omega)
   cases a; simp_all
theorem qdc {n : Nat} (ih : ∀ t l, shOf P n t = some l → Reads H enc P w base spare held t l) : ∀ (fs : List Field) (o tot : Nat) (l : List Sh), fieldsSh P (shOf P n) fs o tot = some l →
  ∀ (fuel : Nat) (cs : List Value), cs.length = tot → (∀ f ∈ fs, ∃ y, DataW.trod enc P w base spare held fuel f.type ((cs.drop f.offset).take (P.cellsOf f.type)) = some y) → ∃ gs, Is l gs ∧ Fits w (fun _ => False) gs (cs.drop o)
 | [], o, tot, l, h, fuel, cs, hc, _ => by
  unfold fieldsSh at h
  split at h
  ·cases h; rename_i e; exact ⟨[], .nil, by rw [List.drop_eq_nil_of_le (by omega)]; trivial⟩
  ·cases h
 | f :: fs, o, tot, l, h, fuel, cs, hc, hf => by
  unfold fieldsSh at h
  split at h
  ·rename_i ho
   split at h
   ·rename_i l1 hl1
    split at h
    ·rename_i hlen
     split at h
     ·rename_i r hr
      cases h
      obtain ⟨y, hy⟩ := hf f (List.mem_cons_self ..);obtain ⟨gs1, k1, k2⟩ := ih _ _ hl1 _ _ _ hy;obtain ⟨gs2, k3, k4⟩ := qdc ih fs _ _ _ hr fuel cs hc fun g hg => hf g (List.mem_cons_of_mem _ hg);refine ⟨gs1 ++ gs2, k1.append k3, ?_⟩;rw [ho, ← hlen] at k2
      have : cs.drop o = (cs.drop o).take l1.length ++ cs.drop (o + l1.length) := by
       rw [← List.drop_drop, List.take_append_drop]
      rw [this];exact qkq k2 k4
     ·cases h
    ·cases h
   ·cases h
  ·cases h
theorem qct : ∀ (n : Nat) (t : TypeId) (l : List Sh), shOf P n t = some l → Reads H enc P w base spare held t l
 | 0, _, _, h => by cases h
 | n + 1, t, l, h => by
  intro fuel cs x hx;unfold shOf at h
  split at h
  ·rename_i hu; cases h
   obtain ⟨k, rfl, _⟩ := DataW.trod_int hu hx;exact ⟨[G.int k], .int k .nil, ⟨rfl, rfl⟩, trivial⟩
  ·rename_i hu; cases h
   obtain ⟨s, rfl, _⟩ := DataW.trod_string hu hx;exact ⟨[G.str s], .str s .nil, ⟨rfl, rfl⟩, trivial⟩
  ·rename_i hu; cases h
   obtain ⟨b, rfl, _⟩ := DataW.trod_bool hu hx;exact ⟨[G.bool b], .bool b .nil, ⟨rfl, rfl⟩, trivial⟩
  ·rename_i e hu
   split at h
   ·rename_i le hle
    split at h
    ·rename_i hlen; cases h
     obtain ⟨xs, k1, k2, _⟩ := qem hu hlen (qct n e le hle) hx;exact ⟨_, .sl rfl k1 .nil, k2⟩
    ·cases h
   ·cases h
  ·rename_i fs hu
   obtain ⟨xs, m, _, _, hc, hlen, hf⟩ := DataW.trod_struct hu hx
   have := qdc (qct n) fs.toList 0 _ l h m cs hc fun f hf' => by
    obtain ⟨i, hi⟩ := List.getElem?_of_mem hf'
    have hi' : fs[i]? = some f := by rw [← Array.getElem?_toList]; exact hi
    have hlt : i < xs.length := by rw [hlen]; exact (Array.getElem?_eq_some_iff.1 hi').1
    exact ⟨_, (hf i f hi').trans (List.getElem?_eq_getElem hlt)⟩
   simpa using this
  ·cases h
theorem qen {r : Reach} {b0 : Nat} {t : TypeId} {fs : Array Field} {v : Value} {d : DataW H} {p : List MemPlace} {n : Nat} {l : List Sh} (hs : P.underlying t = some (.struct fs)) (hl : shOf P n t = some l) (hv : Value.okWide P w r b0 t v) (h : DataW.Trod enc P w base spare held t v d p) :
  ∃ gs, Is l gs ∧ (G.agg gs).p w (fun _ => False) v := by
 unfold Value.okWide at hv;rw [hs] at hv;obtain ⟨cs, rfl, _, _⟩ := hv;obtain ⟨fuel, hf⟩ := h;obtain ⟨gs, k1, k2⟩ := qct n t l hl _ _ _ hf;exact ⟨gs, k1, cs.toList, rfl, k2⟩
theorem qnx {r : Reach} {b0 : Nat} {t e : TypeId} {v : Value} {d : DataW H} {p : List MemPlace} {n : Nat} {l : List Sh} (hs : P.underlying t = some (.slice e)) (hl : shOf P n e = some l) (hle : l.length = P.cellsOf e) (hv : Value.okWide P w r b0 t v) (h : DataW.Trod enc P w base spare held t v d p) :
  ∃ xs : List (List G), (∀ c ∈ xs, Is l c) ∧ (G.sl l.length xs).p w (fun _ => False) v ∧ (xs = [] ∨ ∃ elems rest, d = .slice elems rest ∧ elems.length = xs.length) := by
 obtain ⟨fuel, hf⟩ := h;obtain ⟨xs, k1, k2, k3⟩ := qem hs hle (qct n e l hl) hf
 have : v.cells.toList = [v] := by
  unfold Value.okWide at hv;rw [hs] at hv;dsimp only at hv;unfold Cell.okWide Cell.ok at hv;rw [hs] at hv
  cases v <;> first | rfl | exact hv.elim
 rw [this] at k2;exact ⟨xs, k1, k2.1.1, k3⟩
end
end Go.Sim
namespace Go.Proofs.YtdfgeoefbbkcnaaGreatDoor
open Go.ChangeShapes Go.WideShapes Go.ChangeAt Go.WideMaps Go.WideElems Go.RowKit
open Go.Sim (EG glT GlOk Cells G Grow)
abbrev laid2 : List (String × DataW Unit) := [("turnround/calendar.lengths", Rows.laid_turnround_calendar_lengths), ("turnround/use.statuses", Rows.laid_turnround_use_statuses)]
theorem own : ownKnob Tryz.prog.godebug = none := by kernel_rfl
theorem qtj : laidOutB Tryz.prog = true := by kernel_rfl
theorem gLen : Tryz.prog.globalNamed "turnround/calendar.lengths" = some 1 := by kernel_rfl
theorem gSta : Tryz.prog.globalNamed "turnround/use.statuses" = some 0 := by kernel_rfl
theorem tLen : (Tryz.prog.globals[1]?).map (·.type) = some 296 := by kernel_rfl
theorem tSta : (Tryz.prog.globals[0]?).map (·.type) = some 199 := by kernel_rfl
theorem uLen : Tryz.prog.underlying 296 = some (.array 12 3) := by kernel_rfl
theorem uSta : Tryz.prog.underlying 199 = some (.array 4 9) := by kernel_rfl
theorem qhp {H : Type} {enc : TypeId × Value → H} {P : Program} {w : World} {base : Nat} {spare : Nat → Bool} {held : Bool} {α : Type} {f : α → DataW H} {g : α → Value} {t e : TypeId} {N : Nat} (ht : P.underlying t = some (.array N e)) (hc : P.cellsOf e = 1) (hN : P.cellsOf t = N)
  (hcell : ∀ fuel cs y a, DataW.trod enc P w base spare held fuel e cs = some y → y.1 = f a → cs = [g a]) {fuel : Nat} {cs : List Value} {l : List α} {ps : List MemPlace} (h : DataW.trod enc P w base spare held fuel t cs = some (.agg (l.map f), ps)) : cs = l.map g := by
 obtain ⟨xs, m, _, hx, hl, hn, hel⟩ := DataW.trod_array ht h;simp only [Prod.mk.injEq, DataW.agg.injEq] at hx
 have hlen : l.length = xs.length := by simpa using congrArg List.length hx.1
 apply List.ext_getElem
 ·rw [List.length_map, hl, hN]; omega
 ·intro i h1 h2
  have h3 : i < xs.length := by rw [List.length_map] at h2; omega
  have h4 := hel i (by omega);rw [hc, Nat.mul_one, List.getElem?_eq_getElem h3] at h4
  have h5 : (xs[i]).1 = f (l[i]'(by omega)) := by
   have := congrArg (fun q => q[i]?) hx.1;simp only [List.getElem?_map] at this;rw [List.getElem?_eq_getElem h3, List.getElem?_eq_getElem (by omega : i < l.length)] at this
   simpa using this.symm
  have h6 := hcell _ _ _ _ h4 h5;rw [List.getElem_map]
  have h7 : (cs.drop i).take 1 = [cs[i]] := by rw [List.drop_eq_getElem_cons h1]; rfl
  rw [h7] at h6;exact (List.cons.inj h6).1
theorem qac {W : World} {g : Nat} : ∀ {vs : List Value} {o : Nat}, (∀ v ∈ vs, v.oneCell' = true) → (∀ i v, vs[i]? = some v → W.cell? ⟨g, o + i, none⟩ = some v) → Cells W (fun _ => False) g o (vs.map G.lit)
 | [], _, _, _ => trivial
 | v :: vs, o, h1, h2 => ⟨⟨v, by simpa using h2 0 v rfl, rfl, h1 v (List.mem_cons_self ..)⟩, qac (fun u hu => h1 u (List.mem_cons_of_mem _ hu)) fun i u hu => by
   have := h2 (i + 1) u (by simpa using hu)
   rw [show o + 1 + i = o + (i + 1) by omega]; exact this⟩
theorem qhq {W : World} (h : laidMetH Tryz.prog laid2 W) : GlOk (EG glT) W (fun _ => False) := by
 rw [MakeChecks.laidMetH_plain _ _ _ (by kernel_rfl)] at h;obtain ⟨ps, ⟨g0, t0, cs0, f0, p0, q0, hg0, ht0, hv0, hd0, ⟨g1, t1, cs1, f1, p1, q1, hg1, ht1, hv1, hd1, _, _⟩, _⟩, _, _⟩ := h;obtain rfl := Option.some.inj (gLen.symm.trans hg0);obtain rfl := Option.some.inj (gSta.symm.trans hg1);obtain rfl := Option.some.inj (tLen.symm.trans ht0);obtain rfl := Option.some.inj (tSta.symm.trans ht1)
 have e0 : cs0.toList = Sim.lengthCells := by
  refine qhp (α := Int) (f := fun n => .lit (.int .i64 n)) (g := fun n => .int .i64 n) (l := [31, 28, 31, 30, 31, 30, 31, 31, 30, 31, 30, 31]) uLen (by kernel_rfl) (by kernel_rfl) ?_ hd0;intro fuel cs y a hy ha;obtain ⟨n, rfl, rfl, _⟩ := DataW.trod_int Tryz.underlying3 hy
  simp at ha; rw [ha]
 have e1 : cs1.toList = Sim.statusCells := by
  refine qhp (α := List UInt8) (f := fun n => .lit (.string n)) (g := fun n => Sim.sv n) (l := [[114, 101, 116, 117, 114, 110, 101, 100], [102, 108, 111, 119, 110], [101, 120, 99, 117, 115, 101, 100], [109, 105, 115, 115, 101, 100]]) uSta (by kernel_rfl) (by kernel_rfl) ?_ hd1;intro fuel cs y a hy ha;obtain ⟨s, rfl, rfl, _⟩ := DataW.trod_string Tryz.underlying9 hy
  simp at ha
  unfold Sim.sv;rw [← ha]
 have c0 := fun i => World.var?_cell hg0 hv0 i;have c1 := fun i => World.var?_cell hg1 hv1 i;intro g vs hgv
 have hgv : (g, vs) = (0, Sim.statusCells) ∨ (g, vs) = (1, Sim.lengthCells) := by simpa [EG, glT] using hgv
 rcases hgv with hgv | hgv
 ·cases hgv
  refine ⟨⟨fun h => h, ?_⟩, qac (by unfold Sim.statusCells Sim.sv; intro v hv; simp at hv; rcases hv with rfl | rfl | rfl | rfl <;> rfl) fun i v hv => ?_⟩
  ·have := c1 0;rw [← Array.getElem?_toList, e1] at this;exact Go.block_lt_of_cell (a := ⟨0, 0, none⟩) this
  ·rw [Nat.zero_add, c1 i, ← Array.getElem?_toList, e1]; exact hv
 ·cases hgv
  refine ⟨⟨fun h => h, ?_⟩, qac (by unfold Sim.lengthCells; intro v hv; obtain ⟨n, _, rfl⟩ := List.mem_map.1 hv; rfl) fun i v hv => ?_⟩
  ·have := c0 0;rw [← Array.getElem?_toList, e0] at this;exact Go.block_lt_of_cell (a := ⟨1, 0, none⟩) this
  ·rw [Nat.zero_add, c0 i, ← Array.getElem?_toList, e0]; exact hv
end Go.Proofs.YtdfgeoefbbkcnaaGreatDoor
namespace Go.Proofs.YtdfgeoefbbkcnaaGreatDoor
open Go.ChangeShapes Go.WideShapes Go.ChangeAt Go.WideMaps Go.WideElems Go.RowKit
open Go.Sim (EG glT GlOk Cells G Grow)
set_option maxRecDepth 100000 in
theorem qqd (os : Os) (args : Array Value) : laidMetH Tryz.prog laid2 ((World.doorLaid Tryz.prog 400 os).forCall (fun _ _ => 0) ⟨#[], args, []⟩).memory := by
 rw [MakeChecks.laidMetH_plain _ _ _ (by kernel_rfl)];refine laidMet_of_run' 8 ?_ ?_
 ·kernel_rfl
 ·kernel_rfl
theorem qck {H : Type} {enc : TypeId × Value → H} {P : Program} (hl : laidOutB P = true) {W W' : World} (hb : Below W.heap.size W W') : ∀ {ts : List TypeId} {vs : List Value} {ds : List (DataW H)} {ps : List MemPlace}, (∀ t ∈ ts, P.readableRec t = true ∧ t < P.types.size) → (∀ x ∈ ps, x.block < W.heap.size) →
  DataW.TrodAll enc P W 0 (fun _ => true) true ts vs ds ps → DataW.TrodAll enc P W' 0 (fun b => decide (b < W.heap.size)) true ts vs ds ps
 | [], [], [], _, _, _, h => h
 | t :: ts, v :: vs, d :: ds, ps, ht, hp, ⟨p, q, h1, h2, h3⟩ => by
  subst h3;have := ht t (List.mem_cons_self ..);exact ⟨p, q, Below.trod hl this.1 this.2 h1 hb fun x hx => hp x (List.mem_append_left _ hx), qck hl hb (fun t h => ht t (List.mem_cons_of_mem _ h)) (fun x hx => hp x (List.mem_append_right _ hx)) h2, rfl⟩
 | [], _ :: _, _, _, _, _, h => h.elim
 | [], [], _ :: _, _, _, _, h => h.elim
 | _ :: _, [], _, _, _, _, h => h.elim
 | _ :: _, _ :: _, [], _, _, _, h => h.elim
theorem qqe {H : Type} {enc : TypeId × Value → H} {P : Program} (hl : laidOutB P = true) {f : Func} {s : ChangeSpec} {W W' : World} {args : Array Value} {ds gs : List (DataW H)} {before : List MemPlace} (ht4 : P.underlying 4 = some .bool)
  (hW : DataW.Whole enc P f.params.toList s.vars false W args.toList ds gs before) (hvars : s.vars = []) (hres : f.resultTypes = #[4]) (hts : ∀ t ∈ f.params.toList, P.readableRec t = true ∧ t < P.types.size)
  (hs : s.fn H (ds ++ gs) = { results := [.lit (.bool true)], args := ds }) (hg : Below W.heap.size W W') : s.post enc P f false true false false W args (.bool true) W' := by
 have hW' := hW;obtain ⟨p, q, hA, hV, hb, _, _⟩ := hW;rw [hvars] at hV;obtain ⟨rfl, rfl⟩ := trodVars_none hV;rw [List.append_nil] at hb;subst hb;have hlt : ∀ x ∈ before, x.block < W.heap.size := fun x hx => hW'.lt x hx;refine ⟨_, _, _, [], before, [], hW', ?_, ?_, ?_, hg.frame _, fun h => by cases h⟩
 ·rw [hs, hres];exact trodAll_mk1 (shut_bool ht4 _)
 ·rw [hs];exact qck hl hg hts hlt hA
 ·rw [hs, hvars]; rfl
end Go.Proofs.YtdfgeoefbbkcnaaGreatDoor
namespace Go.Proofs.YtdfgeoefbbkcnaaGreatDoor
open Go.ChangeShapes Go.WideShapes Go.ChangeAt Go.WideMaps Go.WideElems Go.RowKit
open Go.Sim
theorem sh24 : shOf Tryz.prog 9 24 = some [.int, .int, .int, .int, .sl [.str], .int, .int] := by kernel_rfl
theorem qyn : shOf Tryz.prog 9 105 = some [.str, .str, .int, .str, .int, .int, .str, .int] := by kernel_rfl
theorem qv7 {gs : List G} (h : Is [.str] gs) : ∃ s, gs = cStr s := by
 cases h with
 | str s h => cases h; exact ⟨s, rfl⟩
theorem qv8 {gs : List G} (h : Is [.int, .int, .int, .int, .sl [.str], .int, .int] gs) : ∃ x : S23, gs = [G.int x.Before, G.int x.After, G.int x.Notice, G.int x.Share, G.sl 1 (List.map cStr x.Causes), G.int x.Off, G.int x.Run] := by
 cases h with
 | int n1 h => cases h with
  | int n2 h => cases h with
   | int n3 h => cases h with
    | int n4 h => cases h with
     | sl hk hx h => cases h with
      | int n5 h => cases h with
       | int n6 h =>
        cases h
        subst hk;obtain ⟨l, rfl⟩ := qfv fun c hc => qv7 (hx c hc);exact ⟨⟨n1, n2, n3, n4, l, n5, n6⟩, rfl⟩
theorem qtk {gs : List G} (h : Is [.str, .str, .int, .str, .int, .int, .str, .int] gs) : ∃ x : S104, gs = x.c := by
 cases h with
 | str n1 h => cases h with
  | str n2 h => cases h with
   | int n3 h => cases h with
    | str n4 h => cases h with
     | int n5 h => cases h with
      | int n6 h => cases h with
       | str n7 h => cases h with
        | int n8 h => cases h; exact ⟨⟨n1, n2, n3, n4, n5, n6, n7, n8⟩, rfl⟩
end Go.Proofs.YtdfgeoefbbkcnaaGreatDoor
set_option maxRecDepth 10000
namespace Go.Sim
open Go.Proofs
def s202 (a0 : Int) : Bool :=
 decide (a0 ≠ a0)
theorem c202 {g : List (Nat × List Value)} (a0 : Int)    : Con (EG g) 202 [G.int a0] (G.bool (s202 a0)) := by
 generalize hR : s202 a0 = R;unfold s202 at hR;refine qn Tryz.func202 rfl rfl fun w0 M0 => ?_;refine qb (qa [.p] (sa rfl rfl (qc (qb (qa [.p, .p, .p, .p] (sm rfl rfl ?_))))));refine sm rfl rfl (su (jg rfl rfl rfl) rfl (sa rfl rfl (qc (qo ?_))));subst hR;exact zb rfl (rv_g rfl)
def s252_l2 (rec1 : Int → (List Int) → Option (List Int)) (a1 : Int) (a3 : Int → Int → Option Int) (x1 : Int) : Nat → Int → (List Int) → Option (List Int)
 | 0, _, _ => none
 | k8 + 1, x5, x6 => bindO (bif decide (a1 < x5) then ixO x6 x5 else some default) fun y9 => bindO (bif decide (a1 < x5) then ixO x6 (x5 - 1) else some default) fun y10 => bindO (bif decide (a1 < x5) then a3 y9 y10 else some default) fun r11 => (bif (decide (a1 < x5)) && (decide (r11 < 0)) then bindO (ixO x6 (x5 - 1)) fun y12 => bindO (ixO x6 x5) fun y13 => bindO (ixO x6 x5) fun y14 => bindO (ixO (List.set x6 (Int.toNat x5) y12) (x5 - 1)) fun y15 => s252_l2 rec1 a1 a3 x1 k8 (x5 - 1) (List.set (List.set x6 (Int.toNat x5) y12) (Int.toNat (x5 - 1)) y13) else rec1 (x1 + 1) x6)
def s252_l1 (a1 : Int) (a3 : Int → Int → Option Int) : Nat → Int → (List Int) → Option (List Int)
 | 0, x1, x2 => some x2
 | k4 + 1, x1, x2 => s252_l2 (fun z0_ z1_ => s252_l1 a1 a3 k4 z0_ z1_) a1 a3 x1 (((x1 - a1).toNat) + 1) x1 x2
def s252 (a0 : List Int) (a1 : Int) (a2 : Int) (a3 : Int → Int → Option Int) : Option (List Int) :=
 s252_l1 a1 a3 ((a2 - (a1 + 1)).toNat) (a1 + 1) a0
theorem c252 {g : List (Nat × List Value)} (a0 : List Int) (a1 : Int) (a2 : Int) (a3 : Int → Int → Option Int) {R : List Int} {N0 : Nat} (hN0 : List.length a0 = N0) {ca3 : G} {ia3 : FuncId} {ka3 : List G} (ha3 : FnIs ca3 ia3 ka3) (Ka3 : Known Tryz.prog ia3) (Ha3 : ∀ (x0 : Int) (x1 : Int) (r : Int), a3 x0 x1 = some r → Con (EG g) ia3 ([G.int x0, G.int x1] ++ ka3) (G.int r)) (hA : 0 ≤ a1) (hA2 : a1 ≤ 1000000) (hB : a2 ≤ 1000000) (hR : s252 a0 a1 a2 a3 = some R) : ConB (EG g) 252 [.osl 0 1 0 N0, .g (G.int a1), .g (G.int a2), .g (ca3)] [(0, .arr 3 1 (List.map cInt a0))] (G.tup []) [(0, .arr 3 1 (List.map cInt R))] := by
 unfold s252 at hR;refine kr Tryz.func252 rfl rfl rfl fun w0 M0 x => ?_;refine wm (f := cInt) (l := a0) 0 rfl fun hla0 => ?_;refine qb (qa [.p, .p, .p] (sm rfl rfl (su (zc rfl rfl rfl iF) rfl (sa rfl rfl (qc (qi ?_))))));refine qq (γ := Nat × Int × (List Int)) (fun g => ([(0, .osl 0 1 0 (N0)), (1, .g (G.int a1)), (2, .g (G.int a2)), (3, .g (ca3)), (8, .g (G.int g.2.1))], [(0, .arr 3 1 (List.map cInt g.2.2))])) (fun g => g.1 = (a2 - g.2.1).toNat ∧ (a1 + 1) ≤ g.2.1 ∧ List.length g.2.2 = N0 ∧ s252_l1 a1 a3 g.1 g.2.1 g.2.2 = some R) (fun g => g.1) ⟨rfl, ((a2 - (a1 + 1)).toNat, a1 + 1, a0), ⟨rfl, rfl, rfl, rfl, rfl, trivial⟩, ⟨rfl, trivial⟩, rfl, ⟨rfl, iD, hN0, hR⟩, trivial⟩ ?_
 ·rintro ⟨k4, x1, x2⟩ ⟨hk1, iv1_0, ln3, hR⟩;replace hk1 : k4 = (a2 - x1).toNat := hk1;replace hR : s252_l1 a1 a3 k4 x1 x2 = some R := hR;replace iv1_0 : (a1 + 1) ≤ x1 := iv1_0;replace ln3 : List.length x2 = N0 := ln3;refine qb (qb (qa [.p, .p, .p] (sm rfl rfl (sm rfl rfl (su (qu rfl rfl rfl) rfl (qc ?_))))));refine qj _ rfl (fun h1 => ?_) (fun h1 => ?_)
  ·replace h1 : (decide (x1 < a2)) = true := h1;replace h1 := decT h1;obtain ⟨k4, rfl⟩ : ∃ m, k4 = m + 1 := ⟨k4 - 1, by omega⟩;rw [s252_l1] at hR;(try dsimp only at hR);refine ql (qb (qi (qb (qa [.p, .p] (sm rfl rfl (sa rfl rfl ?_))))));refine qc (qi (qq (γ := Nat × Int × (List Int)) (fun g => ([(0, .osl 0 1 0 (N0)), (1, .g (G.int a1)), (2, .g (G.int a2)), (3, .g (ca3)), (8, .g (G.int x1)), (9, .g (G.int g.2.1))], [(0, .arr 3 1 (List.map cInt g.2.2))])) (fun g => (g.2.1 - a1).toNat < g.1 ∧ a1 ≤ g.2.1 ∧ g.2.1 ≤ 1000000 ∧ List.length g.2.2 = N0 ∧ s252_l2 (fun z0_ z1_ => s252_l1 a1 a3 k4 z0_ z1_) a1 a3 x1 g.1 g.2.1 g.2.2 = some R) (fun g => g.1) ⟨rfl, (((x1 - a1).toNat) + 1, x1, x2), ⟨rfl, rfl, rfl, rfl, rfl, rfl, trivial⟩, ⟨rfl, trivial⟩, rfl, ⟨Nat.lt_succ_self _, iD, iD, ln3, hR⟩, trivial⟩ ?_))
   ·rintro ⟨k8, x5, x6⟩ ⟨hk2, iv2_0, iv2_1, ln7, hR⟩;replace hk2 : (x5 - a1).toNat < k8 := hk2;replace hR : s252_l2 (fun z0_ z1_ => s252_l1 a1 a3 k4 z0_ z1_) a1 a3 x1 k8 x5 x6 = some R := hR;replace iv2_0 : a1 ≤ x5 := iv2_0;replace iv2_1 : x5 ≤ 1000000 := iv2_1;replace ln7 : List.length x6 = N0 := ln7;obtain ⟨k8, rfl⟩ : ∃ m, k8 = m + 1 := ⟨k8 - 1, by omega⟩;rw [s252_l2] at hR;(try dsimp only at hR);refine qb (qb ?_);obtain ⟨y9, by9, hR⟩ := qk hR;obtain ⟨y10, by10, hR⟩ := qk hR;obtain ⟨r11, br11, hR⟩ := qk hR;refine zu [.p, .p, .p, .p, .p, .p, .p, .p, .r, .p, .p, .p, .p, .r, .p, .p, .p] (by kernel_rfl) (sm rfl rfl (sm rfl rfl (su (z0 rfl rfl rfl) rfl (sm rfl rfl (sg rfl rfl (fun h => qh rfl rfl) rfl (sg rfl rfl (fun h => qp rfl rfl) rfl ?_))))));refine sg rfl rfl (fun h => qh rfl rfl) rfl (sg rfl rfl (fun h => jl rfl Tryz.underlying82 ty3 (gd h rfl) (gd h rfl) (z5 (jp by9 h)) (Nat.lt_of_lt_of_eq (jk (qz (jp by9 h))) ln7)) rfl (xn rfl rfl rfl (kp _ _) (fun h => vi (f := cInt) (l := x6) (a := y9) rfl ty3 (gd h rfl) rfl (qz (jp by9 h)) rfl) rfl ?_));refine sg rfl rfl (fun h => qp rfl rfl) rfl (sg rfl rfl (fun h => qh rfl rfl) rfl (sg rfl rfl (fun h => ve rfl (gd h rfl) rfl iF) rfl (sg rfl rfl (fun h => jl rfl Tryz.underlying82 ty3 (gd h rfl) (gd h rfl) (z5 (jp by10 h)) (Nat.lt_of_lt_of_eq (jk (qz (jp by10 h))) ln7)) rfl (xn rfl rfl rfl (kp _ _) (fun h => vi (f := cInt) (l := x6) (a := y10) rfl ty3 (gd h rfl) rfl (qz (jp by10 h)) rfl) rfl ?_))));refine sg rfl rfl (fun h => vd rfl ha3 Ka3 (gd h rfl) (Con.lend (Ha3 y9 y10 _ (jp br11 h))) (qe (gd h rfl) (qe (gd h rfl) qm))) rfl (sg rfl rfl (fun h => qu rfl (gd h rfl) rfl) rfl (su (zf rfl rfl rfl rfl) rfl (qc (qj _ rfl (fun h3 => ?_) (fun h3 => ?_)))))
    ·replace h3 : ((decide (a1 < x5)) && (decide (r11 < 0))) = true := h3;replace hR := zj hR h3;(try simp only [bB] at h3);refine ql (qb (qi ?_));obtain ⟨y12, by12, hR⟩ := qk hR;obtain ⟨y13, by13, hR⟩ := qk hR;obtain ⟨y14, by14, hR⟩ := qk hR;obtain ⟨y15, by15, hR⟩ := qk hR;refine zu [.p, .p, .p, .p, .p, .p, .p, .p, .p, .r, .p, .p, .p, .r, .p, .w, .p, .w] (by kernel_rfl) (su (qp rfl rfl) rfl (sm rfl rfl (su (qp rfl rfl) rfl (sm rfl rfl (su (ve rfl rfl rfl iF) rfl (su (qp rfl rfl) rfl ?_))))));refine sm rfl rfl (su (ve rfl rfl rfl iF) rfl (su (jl rfl Tryz.underlying82 ty3 rfl rfl (z5 by12) (Nat.lt_of_lt_of_eq (jk (qz by12)) ln7)) rfl (sr (vi (f := cInt) (l := x6) (a := y12) rfl ty3 rfl rfl (qz by12) rfl) rfl (su (qp rfl rfl) rfl (sm rfl rfl (su (jl rfl Tryz.underlying82 ty3 rfl rfl (z5 by13) (Nat.lt_of_lt_of_eq (jk (qz by13)) ln7)) rfl ?_))))));refine sr (vi (f := cInt) (l := x6) (a := y13) rfl ty3 rfl rfl (qz by13) rfl) rfl (su (jl rfl Tryz.underlying82 ty3 rfl rfl (z5 by14) (Nat.lt_of_lt_of_eq (jk (qz by14)) ln7)) rfl (jf rfl rfl (vx (f := cInt) (l := x6) (a' := y12) rfl ty3 rfl rfl rfl (Nat.lt_of_lt_of_eq (Nat.lt_of_lt_of_eq (jk (qz by14)) ln7) (Eq.symm ln7)) rfl (fun _ => rfl)) (su (jl rfl Tryz.underlying82 ty3 rfl rfl (z5 by15) (Nat.lt_of_lt_of_eq (jk (qz by15)) ((List.length_set ..).trans ln7))) rfl (jf rfl rfl (vx (f := cInt) (l := List.set x6 (Int.toNat x5) y12) (a' := y13) rfl ty3 rfl rfl rfl (Nat.lt_of_lt_of_eq (Nat.lt_of_lt_of_eq (jk (qz by15)) ((List.length_set ..).trans ln7)) (Eq.symm ((List.length_set ..).trans ln7))) rfl (fun _ => rfl)) (qc (qa [.p, .p, .p] ?_))))));refine sm rfl rfl (su (ve rfl rfl rfl iF) rfl (sa rfl rfl (qc ?_)));exact ⟨rfl, (k8, x5 - 1, List.set (List.set x6 (Int.toNat x5) y12) (Int.toNat (x5 - 1)) y13), ⟨(by simp only [List.length_set]; rfl), rfl, rfl, rfl, rfl, rfl, trivial⟩, ⟨rfl, trivial⟩, rfl, ⟨iB, iB, iB, ((List.length_set ..).trans ((List.length_set ..).trans ln7)), hR⟩, by simp⟩
    ·replace h3 : ((decide (a1 < x5)) && (decide (r11 < 0))) = false := h3;replace hR := zk hR h3;(try simp only [bB] at h3);refine qw ?_;refine qa [.p, .p, .p] (sm rfl rfl (su (zc rfl rfl rfl iG) rfl (sa rfl rfl (qc ?_))));exact ⟨rfl, (k4, x1 + 1, x6), ⟨rfl, rfl, rfl, rfl, rfl, trivial⟩, ⟨rfl, trivial⟩, rfl, ⟨iB, iB, ln7, hR⟩, by simp⟩
  ·replace h1 : (decide (x1 < a2)) = false := h1;replace h1 := decF h1
   obtain rfl : k4 = 0 := by omega
   rw [s252_l1] at hR;refine qw ?_;obtain rfl := Option.some.inj hR;show ResOk _ _ _ _ ∧ MemL _ _;exact ⟨res0 rfl, ⟨rfl, trivial⟩⟩
theorem qhr (rec1 : Int → List Int → Option (List Int)) (hrec : ∀ x l r, rec1 x l = some r → r.length = l.length) (a1 : Int) (a3 : Int → Int → Option Int) (x1 : Int) : ∀ (k : Nat) (x : Int) (l r : List Int), s252_l2 rec1 a1 a3 x1 k x l = some r → r.length = l.length
 | 0, _, _, _, h => by rw [s252_l2] at h; cases h
 | k + 1, x, l, r, h => by
  rw [s252_l2] at h;obtain ⟨y1, _, h⟩ := qk h;obtain ⟨y2, _, h⟩ := qk h;obtain ⟨y3, _, h⟩ := qk h
  cases hc : (decide (a1 < x) && decide (y3 < 0)) with
  | true =>
   have h := zj h hc;obtain ⟨y4, _, h⟩ := qk h;obtain ⟨y5, _, h⟩ := qk h;obtain ⟨y6, _, h⟩ := qk h;obtain ⟨y7, _, h⟩ := qk h;have := qhr rec1 hrec a1 a3 x1 k _ _ _ h
   simpa using this
  | false => exact hrec _ _ _ (zk h hc)
theorem qhs (a1 : Int) (a3 : Int → Int → Option Int) : ∀ (k : Nat) (x : Int) (l r : List Int), s252_l1 a1 a3 k x l = some r → r.length = l.length
 | 0, _, _, _, h => by rw [s252_l1] at h; cases h; rfl
 | k + 1, x, l, r, h => by
  rw [s252_l1] at h;exact qhr _ (fun x l r h => qhs a1 a3 k x l r h) a1 a3 x _ _ _ _ h
theorem qv9 {a0 : List Int} {a1 a2 : Int} {a3 : Int → Int → Option Int} {R : List Int} (h : s252 a0 a1 a2 a3 = some R) : R.length = a0.length := qhs _ _ _ _ _ _ h
end Go.Sim
namespace Go.Ex
open Go.Proofs
def lenT (n : Int) : Int := bif decide (n ≤ 0) then 0 else bif decide (n ≤ 1) then 1 else bif decide (n ≤ 3) then 2 else bif decide (n ≤ 7) then 3 else 4
theorem qwa : isInt 0 (call Tryz.prog gl (fun _ _ _ _ _ => none) 40 182 [.lit (.int .u64 0)] h0 1000 1000) = true := by kernel_rfl
theorem qwb : Sim.Con (Sim.EG Sim.glT) 182 [Sim.G.lit (.int .u64 0)] (Sim.G.int 0) := by
 obtain ⟨h', c', h⟩ := j9 qwa;exact z8 (vs := [.int .u64 0]) ke jv (by decide) (wz (by decide)) h
theorem qwc : isInt 1 (call Tryz.prog gl (fun _ _ _ _ _ => none) 40 182 [.lit (.int .u64 1)] h0 1000 1000) = true := by kernel_rfl
theorem qwd : Sim.Con (Sim.EG Sim.glT) 182 [Sim.G.lit (.int .u64 1)] (Sim.G.int 1) := by
 obtain ⟨h', c', h⟩ := j9 qwc;exact z8 (vs := [.int .u64 1]) ke jv (by decide) (wz (by decide)) h
theorem qwe : isInt 2 (call Tryz.prog gl (fun _ _ _ _ _ => none) 40 182 [.lit (.int .u64 2)] h0 1000 1000) = true := by kernel_rfl
theorem qwf : Sim.Con (Sim.EG Sim.glT) 182 [Sim.G.lit (.int .u64 2)] (Sim.G.int 2) := by
 obtain ⟨h', c', h⟩ := j9 qwe;exact z8 (vs := [.int .u64 2]) ke jv (by decide) (wz (by decide)) h
theorem qwg : isInt 2 (call Tryz.prog gl (fun _ _ _ _ _ => none) 40 182 [.lit (.int .u64 3)] h0 1000 1000) = true := by kernel_rfl
theorem qwh : Sim.Con (Sim.EG Sim.glT) 182 [Sim.G.lit (.int .u64 3)] (Sim.G.int 2) := by
 obtain ⟨h', c', h⟩ := j9 qwg;exact z8 (vs := [.int .u64 3]) ke jv (by decide) (wz (by decide)) h
theorem qwi : isInt 3 (call Tryz.prog gl (fun _ _ _ _ _ => none) 40 182 [.lit (.int .u64 4)] h0 1000 1000) = true := by kernel_rfl
theorem qwj : Sim.Con (Sim.EG Sim.glT) 182 [Sim.G.lit (.int .u64 4)] (Sim.G.int 3) := by
 obtain ⟨h', c', h⟩ := j9 qwi;exact z8 (vs := [.int .u64 4]) ke jv (by decide) (wz (by decide)) h
theorem qwk : isInt 3 (call Tryz.prog gl (fun _ _ _ _ _ => none) 40 182 [.lit (.int .u64 5)] h0 1000 1000) = true := by kernel_rfl
theorem qwl : Sim.Con (Sim.EG Sim.glT) 182 [Sim.G.lit (.int .u64 5)] (Sim.G.int 3) := by
 obtain ⟨h', c', h⟩ := j9 qwk;exact z8 (vs := [.int .u64 5]) ke jv (by decide) (wz (by decide)) h
theorem qwm : isInt 3 (call Tryz.prog gl (fun _ _ _ _ _ => none) 40 182 [.lit (.int .u64 6)] h0 1000 1000) = true := by kernel_rfl
theorem qwn : Sim.Con (Sim.EG Sim.glT) 182 [Sim.G.lit (.int .u64 6)] (Sim.G.int 3) := by
 obtain ⟨h', c', h⟩ := j9 qwm;exact z8 (vs := [.int .u64 6]) ke jv (by decide) (wz (by decide)) h
theorem qwo : isInt 3 (call Tryz.prog gl (fun _ _ _ _ _ => none) 40 182 [.lit (.int .u64 7)] h0 1000 1000) = true := by kernel_rfl
theorem qwp : Sim.Con (Sim.EG Sim.glT) 182 [Sim.G.lit (.int .u64 7)] (Sim.G.int 3) := by
 obtain ⟨h', c', h⟩ := j9 qwo;exact z8 (vs := [.int .u64 7]) ke jv (by decide) (wz (by decide)) h
theorem qwq : isInt 4 (call Tryz.prog gl (fun _ _ _ _ _ => none) 40 182 [.lit (.int .u64 8)] h0 1000 1000) = true := by kernel_rfl
theorem qwr : Sim.Con (Sim.EG Sim.glT) 182 [Sim.G.lit (.int .u64 8)] (Sim.G.int 4) := by
 obtain ⟨h', c', h⟩ := j9 qwq;exact z8 (vs := [.int .u64 8]) ke jv (by decide) (wz (by decide)) h
theorem qws : isInt 4 (call Tryz.prog gl (fun _ _ _ _ _ => none) 40 182 [.lit (.int .u64 9)] h0 1000 1000) = true := by kernel_rfl
theorem qwt : Sim.Con (Sim.EG Sim.glT) 182 [Sim.G.lit (.int .u64 9)] (Sim.G.int 4) := by
 obtain ⟨h', c', h⟩ := j9 qws;exact z8 (vs := [.int .u64 9]) ke jv (by decide) (wz (by decide)) h
theorem qtl : isInt 4 (call Tryz.prog gl (fun _ _ _ _ _ => none) 40 182 [.lit (.int .u64 10)] h0 1000 1000) = true := by kernel_rfl
theorem qtm : Sim.Con (Sim.EG Sim.glT) 182 [Sim.G.lit (.int .u64 10)] (Sim.G.int 4) := by
 obtain ⟨h', c', h⟩ := j9 qtl;exact z8 (vs := [.int .u64 10]) ke jv (by decide) (wz (by decide)) h
theorem qtn : isInt 4 (call Tryz.prog gl (fun _ _ _ _ _ => none) 40 182 [.lit (.int .u64 11)] h0 1000 1000) = true := by kernel_rfl
theorem qto : Sim.Con (Sim.EG Sim.glT) 182 [Sim.G.lit (.int .u64 11)] (Sim.G.int 4) := by
 obtain ⟨h', c', h⟩ := j9 qtn;exact z8 (vs := [.int .u64 11]) ke jv (by decide) (wz (by decide)) h
theorem qtp : isInt 4 (call Tryz.prog gl (fun _ _ _ _ _ => none) 40 182 [.lit (.int .u64 12)] h0 1000 1000) = true := by kernel_rfl
theorem qtq : Sim.Con (Sim.EG Sim.glT) 182 [Sim.G.lit (.int .u64 12)] (Sim.G.int 4) := by
 obtain ⟨h', c', h⟩ := j9 qtp;exact z8 (vs := [.int .u64 12]) ke jv (by decide) (wz (by decide)) h
end Go.Ex
namespace Go.Sim
open Go.Proofs Go.Ex
def lenU (n : Int) : Int := lenT n
theorem c182 (n : Int) (h : 0 ≤ n ∧ n ≤ 12) : Con (EG glT) 182 [G.lit (.int .u64 n)] (G.int (lenU n)) := by
 have : n = 0 ∨ n = 1 ∨ n = 2 ∨ n = 3 ∨ n = 4 ∨ n = 5 ∨ n = 6 ∨ n = 7 ∨ n = 8 ∨ n = 9 ∨ n = 10 ∨ n = 11 ∨ n = 12 := by omega
 rcases this with rfl | rfl | rfl | rfl | rfl | rfl | rfl | rfl | rfl | rfl | rfl | rfl | rfl
 ·exact qwb
 ·exact qwd
 ·exact qwf
 ·exact qwh
 ·exact qwj
 ·exact qwl
 ·exact qwn
 ·exact qwp
 ·exact qwr
 ·exact qwt
 ·exact qtm
 ·exact qto
 ·exact qtq
theorem qyo (n : Int) (h : 0 ≤ n ∧ n ≤ 12) : Con (EG glT) 182 [G.lit (.int .u64 (IntKind.u64.wrap n))] (G.int (lenU n)) := by
 have : IntKind.u64.wrap n = n := by
  have : n = 0 ∨ n = 1 ∨ n = 2 ∨ n = 3 ∨ n = 4 ∨ n = 5 ∨ n = 6 ∨ n = 7 ∨ n = 8 ∨ n = 9 ∨ n = 10 ∨ n = 11 ∨ n = 12 := by omega
  rcases this with rfl | rfl | rfl | rfl | rfl | rfl | rfl | rfl | rfl | rfl | rfl | rfl | rfl <;> decide
 rw [this]; exact c182 n h
end Go.Sim
set_option maxRecDepth 10000
namespace Go.Sim
open Go.Proofs
def s167 (a0 : Int) (a1 : Int) : Int :=
 (bif (s202 a0) then (bif (s202 a1) then 0 else (-1)) else (bif (s202 a1) then 1 else (bif decide (a0 < a1) then (-1) else (bif decide (a1 < a0) then 1 else 0))))
theorem c167 {g : List (Nat × List Value)} (a0 : Int) (a1 : Int)    : Con (EG g) 167 [G.int a0, G.int a1] (G.int (s167 a0 a1)) := by
 generalize hR : s167 a0 a1 = R;unfold s167 at hR;refine qn Tryz.func167 rfl rfl fun w0 M0 => ?_;refine qb (qa [.p] (sa rfl rfl (qc (qb (qa [.p, .p, .p] (sm rfl rfl ?_))))));refine su (qg rfl K202 rfl (c202 a0) (qe rfl qm)) rfl (sa rfl rfl (qc (qb (qa [.p, .p, .p] (sm rfl rfl (su (qg rfl K202 rfl (c202 a1) (qe rfl qm)) rfl ?_))))));refine sa rfl rfl (qc (qb (qb (qa [.p] (sm rfl rfl (qc ?_))))));refine qj _ rfl (fun h1 => ?_) (fun h1 => ?_)
 ·replace h1 : ((s202 a0)) = true := h1;replace hR := zj hR h1;(try simp only [bB] at h1);refine qb (qb (qa [.p] (sm rfl rfl (qc (qj _ rfl (fun h2 => ?_) (fun h2 => ?_))))))
  ·replace hR := zj hR h2;refine qb (qa [.p] (sa rfl rfl (qc (qo ?_))));subst hR;exact zb rfl (rv_g rfl)
  ·replace hR := zk hR h2;refine ql (qb (qa [.p] (sa rfl rfl (qc (qo ?_)))));subst hR;exact zb rfl (rv_g rfl)
 ·replace h1 : ((s202 a0)) = false := h1;replace hR := zk hR h1;(try simp only [bB] at h1);refine ql (qb (qb (qa [.p] (sm rfl rfl (qc (qj _ rfl (fun h3 => ?_) (fun h3 => ?_)))))))
  ·replace hR := zj hR h3;refine qb (qa [.p] (sa rfl rfl (qc (qo ?_))));subst hR;exact zb rfl (rv_g rfl)
  ·replace h3 : ((s202 a1)) = false := h3;replace hR := zk hR h3;(try simp only [bB] at h3);refine ql (qb (qb (qa [.p, .p, .p] (sm rfl rfl (sm rfl rfl (su (qu rfl rfl rfl) rfl ?_))))));refine qc (qj _ rfl (fun h4 => ?_) (fun h4 => ?_))
   ·replace hR := zj hR h4;refine qb (qa [.p] (sa rfl rfl (qc (qo ?_))));subst hR;exact zb rfl (rv_g rfl)
   ·replace h4 : (decide (a0 < a1)) = false := h4;replace hR := zk hR h4;(try simp only [bB] at h4);refine ql (qb (qb (qa [.p, .p, .p] (sm rfl rfl (sm rfl rfl (su (z0 rfl rfl rfl) rfl ?_))))));refine qc (qj _ rfl (fun h5 => ?_) (fun h5 => ?_))
    ·replace hR := zj hR h5;refine qb (qa [.p] (sa rfl rfl (qc (qo ?_))));subst hR;exact zb rfl (rv_g rfl)
    ·replace hR := zk hR h5;refine ql (qb (qa [.p] (sa rfl rfl (qc (qo ?_)))));subst hR;exact zb rfl (rv_g rfl)
def s233_l2 (r6 : List Int) : Nat → Int → Option (List Int)
 | 0, _ => none
 | k8 + 1, x7 => some r6
def s233_l1 (a1 : Int) (a2 : Int → Int → Option Int) : Nat → Int → Int → (List Int) → Option (List Int)
 | 0, _, _, _ => none
 | k5 + 1, x1, x2, x3 => bindO (s252 x3 x1 a1 a2) fun r6 => s233_l2 r6 ((0) + 1) 20
def s233 (a0 : List Int) (a1 : Int) (a2 : Int → Int → Option Int) : Option (List Int) :=
 s233_l1 a1 a2 ((0) + 1) 0 20 a0
theorem c233 {g : List (Nat × List Value)} (a0 : List Int) (a1 : Int) (a2 : Int → Int → Option Int) {R : List Int} {N0 : Nat} (hN0 : List.length a0 = N0) {ca2 : G} {ia2 : FuncId} {ka2 : List G} (ha2 : FnIs ca2 ia2 ka2) (Ka2 : Known Tryz.prog ia2) (Ha2 : ∀ (x0 : Int) (x1 : Int) (r : Int), a2 x0 x1 = some r → Con (EG g) ia2 ([G.int x0, G.int x1] ++ ka2) (G.int r)) (hA : 0 ≤ a1) (hB : a1 ≤ 12) (hR : s233 a0 a1 a2 = some R) : ConB (EG g) 233 [.osl 0 1 0 N0, .g (G.int a1), .g (ca2)] [(0, .arr 3 1 (List.map cInt a0))] (G.tup []) [(0, .arr 3 1 (List.map cInt R))] := by
 unfold s233 at hR;refine kr Tryz.func233 rfl rfl rfl fun w0 M0 x => ?_;refine wm (f := cInt) (l := a0) 0 rfl fun hla0 => ?_;refine qb (qa [.p] (sa rfl rfl (qc (qb (qa [.p, .p, .p] (sm rfl rfl ?_))))));refine sa rfl rfl (sa rfl rfl (qc (qb (qi (qq (γ := Nat × Int × Int × (List Int)) (fun g => ([(0, .osl 0 1 0 (N0)), (1, .g (G.int a1)), (2, .g (ca2)), (6, .g (G.int 20)), (7, .g (G.int g.2.1)), (8, .g (G.int g.2.2.1))], [(0, .arr 3 1 (List.map cInt g.2.2.2))])) (fun g => 0 < g.1 ∧ g.2.1 = 0 ∧ g.2.2.1 = 20 ∧ List.length g.2.2.2 = N0 ∧ s233_l1 a1 a2 g.1 g.2.1 g.2.2.1 g.2.2.2 = some R) (fun g => g.1) ⟨rfl, ((0) + 1, 0, 20, a0), ⟨rfl, rfl, rfl, rfl, rfl, rfl, trivial⟩, ⟨rfl, trivial⟩, rfl, ⟨Nat.lt_succ_self _, iD, iD, hN0, hR⟩, trivial⟩ ?_)))))
 ·rintro ⟨k5, x1, x2, x3⟩ ⟨hk1, iv1_0, iv1_1, ln4, hR⟩;replace hk1 : 0 < k5 := hk1;replace hR : s233_l1 a1 a2 k5 x1 x2 x3 = some R := hR;replace iv1_0 : x1 = 0 := iv1_0;replace iv1_1 : x2 = 20 := iv1_1;replace ln4 : List.length x3 = N0 := ln4;obtain ⟨k5, rfl⟩ : ∃ m, k5 = m + 1 := ⟨k5 - 1, by omega⟩;rw [s233_l1] at hR;(try dsimp only at hR);refine qb (qb (qa [.p, .p, .p] (sm rfl rfl (sm rfl rfl (su (j8 rfl rfl rfl) rfl (qc ?_))))));refine qj _ rfl (fun h1 => ?_) (fun h1 => ?_)
  ·(try simp only [bB] at h1)
   exfalso; omega
  ·replace h1 : (decide (x2 ≤ a1)) = false := h1;(try simp only [bB] at h1);refine qw ?_;refine qb ?_;obtain ⟨r6, br6, hR⟩ := qk hR;refine qa [.p, .p, .p, .p, .w] (su (qp rfl rfl) rfl (sm rfl rfl (sm rfl rfl (sm rfl rfl (sw (jy 0 0 rfl K252 rfl (ConB.lend (c252 x3 x1 a1 a2 ln4 ha2 Ka2 Ha2 iA iA iA br6)) (zp rfl rfl (zp rfl rfl (zp rfl rfl (zp rfl rfl xx)))) rfl rfl rfl) rfl (qc ?_))))));refine qi (qq (γ := Nat × Int) (fun g => ([(0, .osl 0 1 0 (N0)), (1, .g (G.int a1)), (2, .g (ca2)), (6, .g (G.int g.2))], [(0, .arr 3 1 (List.map cInt r6))])) (fun g => 0 < g.1 ∧ g.2 = 20 ∧ s233_l2 r6 g.1 g.2 = some R) (fun g => g.1) ⟨rfl, ((0) + 1, 20), ⟨rfl, rfl, rfl, rfl, trivial⟩, ⟨rfl, trivial⟩, rfl, ⟨Nat.lt_succ_self _, iD, hR⟩, trivial⟩ ?_)
   ·rintro ⟨k8, x7⟩ ⟨hk2, iv2_0, hR⟩;replace hk2 : 0 < k8 := hk2;replace hR : s233_l2 r6 k8 x7 = some R := hR;replace iv2_0 : x7 = 20 := iv2_0;obtain ⟨k8, rfl⟩ : ∃ m, k8 = m + 1 := ⟨k8 - 1, by omega⟩;rw [s233_l2] at hR;(try dsimp only at hR);refine qb (qb (qa [.p, .p, .p] (sm rfl rfl (sm rfl rfl (su (qu rfl rfl rfl) rfl (qc ?_))))));refine qj _ rfl (fun h2 => ?_) (fun h2 => ?_)
    ·(try simp only [bB] at h2)
     exfalso; omega
    ·refine qw ?_;obtain rfl := Option.some.inj hR;show ResOk _ _ _ _ ∧ MemL _ _;exact ⟨res0 rfl, ⟨rfl, trivial⟩⟩
def s234_l2 (rec1 : Int → (List S151) → Option (List S151)) (a1 : Int) (a3 : S151 → S151 → Option Int) (x1 : Int) : Nat → Int → (List S151) → Option (List S151)
 | 0, _, _ => none
 | k8 + 1, x5, x6 => bindO (bif decide (a1 < x5) then ixO x6 x5 else some default) fun y9 => bindO (bif decide (a1 < x5) then ixO x6 (x5 - 1) else some default) fun y10 => bindO (bif decide (a1 < x5) then a3 y9 y10 else some default) fun r11 => (bif (decide (a1 < x5)) && (decide (r11 < 0)) then bindO (ixO x6 (x5 - 1)) fun y12 => bindO (ixO x6 x5) fun y13 => bindO (ixO x6 x5) fun y14 => bindO (ixO (List.set x6 (Int.toNat x5) y12) (x5 - 1)) fun y15 => s234_l2 rec1 a1 a3 x1 k8 (x5 - 1) (List.set (List.set x6 (Int.toNat x5) y12) (Int.toNat (x5 - 1)) y13) else rec1 (x1 + 1) x6)
def s234_l1 (a1 : Int) (a3 : S151 → S151 → Option Int) : Nat → Int → (List S151) → Option (List S151)
 | 0, x1, x2 => some x2
 | k4 + 1, x1, x2 => s234_l2 (fun z0_ z1_ => s234_l1 a1 a3 k4 z0_ z1_) a1 a3 x1 (((x1 - a1).toNat) + 1) x1 x2
def s234 (a0 : List S151) (a1 : Int) (a2 : Int) (a3 : S151 → S151 → Option Int) : Option (List S151) :=
 s234_l1 a1 a3 ((a2 - (a1 + 1)).toNat) (a1 + 1) a0
theorem c234 {g : List (Nat × List Value)} (a0 : List S151) (a1 : Int) (a2 : Int) (a3 : S151 → S151 → Option Int) {R : List S151} {N0 : Nat} (hN0 : List.length a0 = N0) {ca3 : G} {ia3 : FuncId} {ka3 : List G} (ha3 : FnIs ca3 ia3 ka3) (Ka3 : Known Tryz.prog ia3) (Ha3 : ∀ (x0 : S151) (x1 : S151) (r : Int), a3 x0 x1 = some r → Con (EG g) ia3 ([G.agg [G.str x0.Name, G.int x0.Moment, G.str x0.Kind], G.agg [G.str x1.Name, G.int x1.Moment, G.str x1.Kind]] ++ ka3) (G.int r)) (hA : 0 ≤ a1) (hA2 : a1 ≤ 1000000) (hB : a2 ≤ 1000000) (hR : s234 a0 a1 a2 a3 = some R) : ConB (EG g) 234 [.osl 0 3 0 N0, .g (G.int a1), .g (G.int a2), .g (ca3)] [(0, .arr 152 3 (List.map S151.c a0))] (G.tup []) [(0, .arr 152 3 (List.map S151.c R))] := by
 unfold s234 at hR;refine kr Tryz.func234 rfl rfl rfl fun w0 M0 x => ?_;refine wm (f := S151.c) (l := a0) 0 rfl fun hla0 => ?_;refine qb (qa [.p, .p, .p] (sm rfl rfl (su (zc rfl rfl rfl iF) rfl (sa rfl rfl (qc (qi ?_))))));refine qq (γ := Nat × Int × (List S151)) (fun g => ([(0, .osl 0 3 0 (N0)), (1, .g (G.int a1)), (2, .g (G.int a2)), (3, .g (ca3)), (8, .g (G.int g.2.1))], [(0, .arr 152 3 (List.map S151.c g.2.2))])) (fun g => g.1 = (a2 - g.2.1).toNat ∧ (a1 + 1) ≤ g.2.1 ∧ List.length g.2.2 = N0 ∧ s234_l1 a1 a3 g.1 g.2.1 g.2.2 = some R) (fun g => g.1) ⟨rfl, ((a2 - (a1 + 1)).toNat, a1 + 1, a0), ⟨rfl, rfl, rfl, rfl, rfl, trivial⟩, ⟨rfl, trivial⟩, rfl, ⟨rfl, iD, hN0, hR⟩, trivial⟩ ?_
 ·rintro ⟨k4, x1, x2⟩ ⟨hk1, iv1_0, ln3, hR⟩;replace hk1 : k4 = (a2 - x1).toNat := hk1;replace hR : s234_l1 a1 a3 k4 x1 x2 = some R := hR;replace iv1_0 : (a1 + 1) ≤ x1 := iv1_0;replace ln3 : List.length x2 = N0 := ln3;refine qb (qb (qa [.p, .p, .p] (sm rfl rfl (sm rfl rfl (su (qu rfl rfl rfl) rfl (qc ?_))))));refine qj _ rfl (fun h1 => ?_) (fun h1 => ?_)
  ·replace h1 : (decide (x1 < a2)) = true := h1;replace h1 := decT h1;obtain ⟨k4, rfl⟩ : ∃ m, k4 = m + 1 := ⟨k4 - 1, by omega⟩;rw [s234_l1] at hR;(try dsimp only at hR);refine ql (qb (qi (qb (qa [.p, .p] (sm rfl rfl (sa rfl rfl ?_))))));refine qc (qi (qq (γ := Nat × Int × (List S151)) (fun g => ([(0, .osl 0 3 0 (N0)), (1, .g (G.int a1)), (2, .g (G.int a2)), (3, .g (ca3)), (8, .g (G.int x1)), (9, .g (G.int g.2.1))], [(0, .arr 152 3 (List.map S151.c g.2.2))])) (fun g => (g.2.1 - a1).toNat < g.1 ∧ a1 ≤ g.2.1 ∧ g.2.1 ≤ 1000000 ∧ List.length g.2.2 = N0 ∧ s234_l2 (fun z0_ z1_ => s234_l1 a1 a3 k4 z0_ z1_) a1 a3 x1 g.1 g.2.1 g.2.2 = some R) (fun g => g.1) ⟨rfl, (((x1 - a1).toNat) + 1, x1, x2), ⟨rfl, rfl, rfl, rfl, rfl, rfl, trivial⟩, ⟨rfl, trivial⟩, rfl, ⟨Nat.lt_succ_self _, iD, iD, ln3, hR⟩, trivial⟩ ?_))
   ·rintro ⟨k8, x5, x6⟩ ⟨hk2, iv2_0, iv2_1, ln7, hR⟩;replace hk2 : (x5 - a1).toNat < k8 := hk2;replace hR : s234_l2 (fun z0_ z1_ => s234_l1 a1 a3 k4 z0_ z1_) a1 a3 x1 k8 x5 x6 = some R := hR;replace iv2_0 : a1 ≤ x5 := iv2_0;replace iv2_1 : x5 ≤ 1000000 := iv2_1;replace ln7 : List.length x6 = N0 := ln7;obtain ⟨k8, rfl⟩ : ∃ m, k8 = m + 1 := ⟨k8 - 1, by omega⟩;rw [s234_l2] at hR;(try dsimp only at hR);refine qb (qb ?_);obtain ⟨y9, by9, hR⟩ := qk hR;obtain ⟨y10, by10, hR⟩ := qk hR;obtain ⟨r11, br11, hR⟩ := qk hR;refine zu [.p, .p, .p, .p, .p, .p, .p, .p, .r, .p, .p, .p, .p, .r, .p, .p, .p] (by kernel_rfl) (sm rfl rfl (sm rfl rfl (su (z0 rfl rfl rfl) rfl (sm rfl rfl (sg rfl rfl (fun h => qh rfl rfl) rfl (sg rfl rfl (fun h => qp rfl rfl) rfl ?_))))));refine sg rfl rfl (fun h => qh rfl rfl) rfl (sg rfl rfl (fun h => jl rfl Tryz.underlying25 vp (gd h rfl) (gd h rfl) (z5 (jp by9 h)) (Nat.lt_of_lt_of_eq (jk (qz (jp by9 h))) ln7)) rfl (xn rfl rfl rfl (kp _ _) (fun h => qbp (f := S151.c) (l := x6) (a := y9) rfl vp (gd h rfl) rfl (qz (jp by9 h))) rfl ?_));refine sg rfl rfl (fun h => qp rfl rfl) rfl (sg rfl rfl (fun h => qh rfl rfl) rfl (sg rfl rfl (fun h => ve rfl (gd h rfl) rfl iF) rfl (sg rfl rfl (fun h => jl rfl Tryz.underlying25 vp (gd h rfl) (gd h rfl) (z5 (jp by10 h)) (Nat.lt_of_lt_of_eq (jk (qz (jp by10 h))) ln7)) rfl (xn rfl rfl rfl (kp _ _) (fun h => qbp (f := S151.c) (l := x6) (a := y10) rfl vp (gd h rfl) rfl (qz (jp by10 h))) rfl ?_))));refine sg rfl rfl (fun h => vd rfl ha3 Ka3 (gd h rfl) (Con.lend (Ha3 y9 y10 _ (jp br11 h))) (qe (gd h rfl) (qe (gd h rfl) qm))) rfl (sg rfl rfl (fun h => qu rfl (gd h rfl) rfl) rfl (su (zf rfl rfl rfl rfl) rfl (qc (qj _ rfl (fun h3 => ?_) (fun h3 => ?_)))))
    ·replace h3 : ((decide (a1 < x5)) && (decide (r11 < 0))) = true := h3;replace hR := zj hR h3;(try simp only [bB] at h3);refine ql (qb (qi ?_));obtain ⟨y12, by12, hR⟩ := qk hR;obtain ⟨y13, by13, hR⟩ := qk hR;obtain ⟨y14, by14, hR⟩ := qk hR;obtain ⟨y15, by15, hR⟩ := qk hR;refine zu [.p, .p, .p, .p, .p, .p, .p, .p, .p, .r, .p, .p, .p, .r, .p, .w, .p, .w] (by kernel_rfl) (su (qp rfl rfl) rfl (sm rfl rfl (su (qp rfl rfl) rfl (sm rfl rfl (su (ve rfl rfl rfl iF) rfl (su (qp rfl rfl) rfl ?_))))));refine sm rfl rfl (su (ve rfl rfl rfl iF) rfl (su (jl rfl Tryz.underlying25 vp rfl rfl (z5 by12) (Nat.lt_of_lt_of_eq (jk (qz by12)) ln7)) rfl (sr (qbp (f := S151.c) (l := x6) (a := y12) rfl vp rfl rfl (qz by12)) rfl (su (qp rfl rfl) rfl (sm rfl rfl (su (jl rfl Tryz.underlying25 vp rfl rfl (z5 by13) (Nat.lt_of_lt_of_eq (jk (qz by13)) ln7)) rfl ?_))))));refine sr (qbp (f := S151.c) (l := x6) (a := y13) rfl vp rfl rfl (qz by13)) rfl (su (jl rfl Tryz.underlying25 vp rfl rfl (z5 by14) (Nat.lt_of_lt_of_eq (jk (qz by14)) ln7)) rfl (jf rfl rfl (vx (f := S151.c) (l := x6) (a' := y12) rfl vp rfl rfl rfl (Nat.lt_of_lt_of_eq (Nat.lt_of_lt_of_eq (jk (qz by14)) ln7) (Eq.symm ln7)) rfl (fun _ => rfl)) (su (jl rfl Tryz.underlying25 vp rfl rfl (z5 by15) (Nat.lt_of_lt_of_eq (jk (qz by15)) ((List.length_set ..).trans ln7))) rfl (jf rfl rfl (vx (f := S151.c) (l := List.set x6 (Int.toNat x5) y12) (a' := y13) rfl vp rfl rfl rfl (Nat.lt_of_lt_of_eq (Nat.lt_of_lt_of_eq (jk (qz by15)) ((List.length_set ..).trans ln7)) (Eq.symm ((List.length_set ..).trans ln7))) rfl (fun _ => rfl)) (qc (qa [.p, .p, .p] ?_))))));refine sm rfl rfl (su (ve rfl rfl rfl iF) rfl (sa rfl rfl (qc ?_)));exact ⟨rfl, (k8, x5 - 1, List.set (List.set x6 (Int.toNat x5) y12) (Int.toNat (x5 - 1)) y13), ⟨(by simp only [List.length_set]; rfl), rfl, rfl, rfl, rfl, rfl, trivial⟩, ⟨rfl, trivial⟩, rfl, ⟨iB, iB, iB, ((List.length_set ..).trans ((List.length_set ..).trans ln7)), hR⟩, by simp⟩
    ·replace h3 : ((decide (a1 < x5)) && (decide (r11 < 0))) = false := h3;replace hR := zk hR h3;(try simp only [bB] at h3);refine qw ?_;refine qa [.p, .p, .p] (sm rfl rfl (su (zc rfl rfl rfl iG) rfl (sa rfl rfl (qc ?_))));exact ⟨rfl, (k4, x1 + 1, x6), ⟨rfl, rfl, rfl, rfl, rfl, trivial⟩, ⟨rfl, trivial⟩, rfl, ⟨iB, iB, ln7, hR⟩, by simp⟩
  ·replace h1 : (decide (x1 < a2)) = false := h1;replace h1 := decF h1
   obtain rfl : k4 = 0 := by omega
   rw [s234_l1] at hR;refine qw ?_;obtain rfl := Option.some.inj hR;show ResOk _ _ _ _ ∧ MemL _ _;exact ⟨res0 rfl, ⟨rfl, trivial⟩⟩
theorem qwu {a0 : List Int} {a1 : Int} {a2 : Int → Int → Option Int} {R : List Int} (h : s233 a0 a1 a2 = some R) : R.length = a0.length := by
 unfold s233 at h;rw [s233_l1] at h;obtain ⟨y1, h1, h⟩ := qk h;rw [s233_l2] at h
 cases h
 exact qv9 h1
theorem qht (rec1 : Int → List S151 → Option (List S151)) (hrec : ∀ x l r, rec1 x l = some r → r.length = l.length) (a1 : Int) (a3 : S151 → S151 → Option Int) (x1 : Int) : ∀ (k : Nat) (x : Int) (l r : List S151), s234_l2 rec1 a1 a3 x1 k x l = some r → r.length = l.length
 | 0, _, _, _, h => by rw [s234_l2] at h; cases h
 | k + 1, x, l, r, h => by
  rw [s234_l2] at h;obtain ⟨y1, _, h⟩ := qk h;obtain ⟨y2, _, h⟩ := qk h;obtain ⟨y3, _, h⟩ := qk h
  cases hc : (decide (a1 < x) && decide (y3 < 0)) with
  | true =>
   have h := zj h hc;obtain ⟨y4, _, h⟩ := qk h;obtain ⟨y5, _, h⟩ := qk h;obtain ⟨y6, _, h⟩ := qk h;obtain ⟨y7, _, h⟩ := qk h;have := qht rec1 hrec a1 a3 x1 k _ _ _ h
   simpa using this
  | false => exact hrec _ _ _ (zk h hc)
theorem qhu (a1 : Int) (a3 : S151 → S151 → Option Int) : ∀ (k : Nat) (x : Int) (l r : List S151), s234_l1 a1 a3 k x l = some r → r.length = l.length
 | 0, _, _, _, h => by rw [s234_l1] at h; cases h; rfl
 | k + 1, x, l, r, h => by
  rw [s234_l1] at h;exact qht _ (fun x l r h => qhu a1 a3 k x l r h) a1 a3 x _ _ _ _ h
theorem qwv {a0 : List S151} {a1 a2 : Int} {a3 : S151 → S151 → Option Int} {R : List S151} (h : s234 a0 a1 a2 a3 = some R) : R.length = a0.length := qhu _ _ _ _ _ _ h
end Go.Sim
set_option maxRecDepth 10000
namespace Go.Sim
open Go.Proofs
def s203 (a0 : List Int) (a1 : Int → Int → Option Int) : Option (List Int) :=
 bindO (s233 a0 (List.length a0 : Int) a1) fun r1 => some r1
theorem c203 {g : List (Nat × List Value)} (a0 : List Int) (a1 : Int → Int → Option Int) {R : List Int} {N0 : Nat} (hN0 : List.length a0 = N0) {ca1 : G} {ia1 : FuncId} {ka1 : List G} (ha1 : FnIs ca1 ia1 ka1) (Ka1 : Known Tryz.prog ia1) (Ha1 : ∀ (x0 : Int) (x1 : Int) (r : Int), a1 x0 x1 = some r → Con (EG g) ia1 ([G.int x0, G.int x1] ++ ka1) (G.int r)) (hB : (List.length a0 : Int) ≤ 12) (hR : s203 a0 a1 = some R) : ConB (EG g) 203 [.osl 0 1 0 N0, .g (ca1)] [(0, .arr 3 1 (List.map cInt a0))] (G.tup []) [(0, .arr 3 1 (List.map cInt R))] := by
 unfold s203 at hR;refine kr Tryz.func203 rfl rfl rfl fun w0 M0 x => ?_;refine wm (f := cInt) (l := a0) 0 rfl fun hla0 => ?_;obtain ⟨r1, br1, hR⟩ := qk hR;refine qa [.p, .p, .p, .p, .w] (su (qp rfl rfl) rfl (su (qp rfl rfl) rfl (su (qc8 hN0 rfl Tryz.underlying82 rfl) rfl (sm rfl rfl (sw (jy 0 0 rfl K233 rfl (ConB.lend (c233 a0 (List.length a0 : Int) a1 hN0 ha1 Ka1 Ha1 iA iA br1)) (zp rfl rfl (zp rfl rfl (zp rfl rfl xx))) rfl rfl rfl) rfl (qc ?_))))));obtain rfl := Option.some.inj hR;show ResOk _ _ _ _ ∧ MemL _ _;exact ⟨res0 rfl, ⟨rfl, trivial⟩⟩
def s205_l1 (a0 : List S151) (a4 : S151 → S151 → Option Int) : Nat → Int → Int → Int → Bool → Bool → Option (List S151)
 | 0, _, _, _, _, _ => none
 | k6 + 1, x1, x2, x3, x4, x5 => bindO (s234 a0 x1 x2 a4) fun r7 => some r7
def s205 (a0 : List S151) (a1 : Int) (a2 : Int) (a3 : Int) (a4 : S151 → S151 → Option Int) : Option (List S151) :=
 s205_l1 a0 a4 ((0) + 1) a1 a2 a3 true true
theorem c205 {g : List (Nat × List Value)} (a0 : List S151) (a1 : Int) (a2 : Int) (a3 : Int) (a4 : S151 → S151 → Option Int) {R : List S151} {N0 : Nat} (hN0 : List.length a0 = N0) {ca4 : G} {ia4 : FuncId} {ka4 : List G} (ha4 : FnIs ca4 ia4 ka4) (Ka4 : Known Tryz.prog ia4) (Ha4 : ∀ (x0 : S151) (x1 : S151) (r : Int), a4 x0 x1 = some r → Con (EG g) ia4 ([G.agg [G.str x0.Name, G.int x0.Moment, G.str x0.Kind], G.agg [G.str x1.Name, G.int x1.Moment, G.str x1.Kind]] ++ ka4) (G.int r)) (hA : 0 ≤ a1) (hA2 : a1 ≤ 12) (hB0 : 0 ≤ a2) (hB : a2 ≤ 12) (hR : s205 a0 a1 a2 a3 a4 = some R) : ConB (EG g) 205 [.osl 0 3 0 N0, .g (G.int a1), .g (G.int a2), .g (G.int a3), .g (ca4)] [(0, .arr 152 3 (List.map S151.c a0))] (G.tup []) [(0, .arr 152 3 (List.map S151.c R))] := by
 unfold s205 at hR;refine kr Tryz.func205 rfl rfl rfl fun w0 M0 x => ?_;refine wm (f := S151.c) (l := a0) 0 rfl fun hla0 => ?_;refine qb (qa [.p] (sa rfl rfl (qc (qb (qa [.p] (sa rfl rfl ?_))))));refine qc (qi (qq (γ := Nat × Int × Int × Int × Bool × Bool) (fun g => ([(0, .osl 0 3 0 (N0)), (1, .g (G.int g.2.1)), (2, .g (G.int g.2.2.1)), (3, .g (G.int g.2.2.2.1)), (4, .g (ca4)), (10, .g (G.bool g.2.2.2.2.1)), (11, .g (G.bool g.2.2.2.2.2))], [(0, .arr 152 3 (List.map S151.c a0))])) (fun g => 0 < g.1 ∧ 0 ≤ g.2.1 ∧ g.2.1 ≤ 12 ∧ 0 ≤ g.2.2.1 ∧ g.2.2.1 ≤ 12 ∧ s205_l1 a0 a4 g.1 g.2.1 g.2.2.1 g.2.2.2.1 g.2.2.2.2.1 g.2.2.2.2.2 = some R) (fun g => g.1) ⟨rfl, ((0) + 1, a1, a2, a3, true, true), ⟨rfl, rfl, rfl, rfl, rfl, rfl, rfl, trivial⟩, ⟨rfl, trivial⟩, rfl, ⟨Nat.lt_succ_self _, iD, iD, iD, iD, hR⟩, trivial⟩ ?_))
 ·rintro ⟨k6, x1, x2, x3, x4, x5⟩ ⟨hk1, iv1_0, iv1_1, iv1_2, iv1_3, hR⟩;replace hk1 : 0 < k6 := hk1;replace hR : s205_l1 a0 a4 k6 x1 x2 x3 x4 x5 = some R := hR;replace iv1_0 : 0 ≤ x1 := iv1_0;replace iv1_1 : x1 ≤ 12 := iv1_1;replace iv1_2 : 0 ≤ x2 := iv1_2;replace iv1_3 : x2 ≤ 12 := iv1_3;obtain ⟨k6, rfl⟩ : ∃ m, k6 = m + 1 := ⟨k6 - 1, by omega⟩;rw [s205_l1] at hR;(try dsimp only at hR);refine qi (qb (qa [.p, .p, .p, .p] (sm rfl rfl (sm rfl rfl (su (ve rfl rfl rfl iF) rfl (sa rfl rfl ?_))))));refine qc (qb (qb (qa [.p, .p] (sm rfl rfl (su (j8 rfl rfl rfl) rfl (qc ?_))))));refine qj _ rfl (fun h1 => ?_) (fun h1 => ?_)
  ·replace h1 : (decide (x2 - x1 ≤ 12)) = true := h1;(try simp only [bB] at h1);refine qb ?_;obtain ⟨r7, br7, hR⟩ := qk hR;refine qa [.p, .p, .p, .p, .w] (su (qp rfl rfl) rfl (sm rfl rfl (sm rfl rfl (sm rfl rfl (sw (jy 0 0 rfl K234 rfl (ConB.lend (c234 a0 x1 x2 a4 hN0 ha4 Ka4 Ha4 iA iA iA br7)) (zp rfl rfl (zp rfl rfl (zp rfl rfl (zp rfl rfl xx)))) rfl rfl rfl) rfl (qc ?_))))));refine qo ?_;obtain rfl := Option.some.inj hR;show ResOk _ _ _ _ ∧ MemL _ _;exact ⟨res0 rfl, ⟨rfl, trivial⟩⟩
  ·(try simp only [bB] at h1)
   exfalso; omega
theorem qny {a0 : List Int} {a1 : Int → Int → Option Int} {R : List Int} (h : s203 a0 a1 = some R) : R.length = a0.length := by
 unfold s203 at h;obtain ⟨y1, h1, h⟩ := qk h
 cases h
 exact qwu h1
theorem qww {a0 : List S151} {a1 a2 a3 : Int} {a4 : S151 → S151 → Option Int} {R : List S151} (h : s205 a0 a1 a2 a3 a4 = some R) : R.length = a0.length := by
 unfold s205 at h;rw [s205_l1] at h;obtain ⟨y1, h1, h⟩ := qk h
 cases h
 exact qwv h1
end Go.Sim
set_option maxRecDepth 10000
namespace Go.Sim
open Go.Proofs
def s174 (a0 : List S151) (a1 : S151 → S151 → Option Int) : Option (List S151) :=
 bindO (s205 a0 0 (List.length a0 : Int) (lenU (List.length a0 : Int)) a1) fun r1 => some r1
theorem c174 (a0 : List S151) (a1 : S151 → S151 → Option Int) {R : List S151} {N0 : Nat} (hN0 : List.length a0 = N0) {ca1 : G} {ia1 : FuncId} {ka1 : List G} (ha1 : FnIs ca1 ia1 ka1) (Ka1 : Known Tryz.prog ia1) (Ha1 : ∀ (x0 : S151) (x1 : S151) (r : Int), a1 x0 x1 = some r → Con (EG glT) ia1 ([G.agg [G.str x0.Name, G.int x0.Moment, G.str x0.Kind], G.agg [G.str x1.Name, G.int x1.Moment, G.str x1.Kind]] ++ ka1) (G.int r)) (hB : (List.length a0 : Int) ≤ 12) (hR : s174 a0 a1 = some R) : ConB (EG glT) 174 [.osl 0 3 0 N0, .g (ca1)] [(0, .arr 152 3 (List.map S151.c a0))] (G.tup []) [(0, .arr 152 3 (List.map S151.c R))] := by
 unfold s174 at hR;refine kr Tryz.func174 rfl rfl rfl fun w0 M0 x => ?_;refine wm (f := S151.c) (l := a0) 0 rfl fun hla0 => ?_;refine qb (qa [.p, .p, .p] (su (qp rfl rfl) rfl (su (qc8 hN0 rfl Tryz.underlying25 rfl) rfl (sa rfl rfl (qc ?_)))));obtain ⟨r1, br1, hR⟩ := qk hR;refine qa [.p, .p, .p, .p, .p, .p, .w] (su (qp rfl rfl) rfl (sm rfl rfl (sm rfl rfl (su (qft rfl Tryz.underlying3 Tryz.underlying257 rfl) rfl (su (qg rfl K182 rfl (Con.lend (qyo (List.length a0 : Int) (by omega))) (qe rfl qm)) rfl (sm rfl rfl ?_))))));refine sw (jy 0 0 rfl K205 rfl (ConB.lend (c205 a0 0 (List.length a0 : Int) (lenU (List.length a0 : Int)) a1 hN0 ha1 Ka1 Ha1 iA iA iA iA br1)) (zp rfl rfl (zp rfl rfl (zp rfl rfl (zp rfl rfl (zp rfl rfl xx))))) rfl rfl rfl) rfl (qc ?_);obtain rfl := Option.some.inj hR;show ResOk _ _ _ _ ∧ MemL _ _;exact ⟨res0 rfl, ⟨rfl, trivial⟩⟩
theorem qrw {a0 : List S151} {a1 : S151 → S151 → Option Int} {R : List S151} (h : s174 a0 a1 = some R) : R.length = a0.length := by
 unfold s174 at h;obtain ⟨y1, h1, h⟩ := qk h
 cases h
 exact qww h1
end Go.Sim
set_option maxRecDepth 10000
namespace Go.Sim
open Go.Proofs
def s204 (a0 : Int) (a1 : Int) (a2 : List S151) : Option Int :=
 bindO (ixO a2 a0) fun y1 => bindO (ixO a2 a1) fun y2 => some (s167 y1.Moment y2.Moment)
theorem c204 {g : List (Nat × List Value)} (a0 : Int) (a1 : Int) (a2 : List S151) {R : Int}   (hR : s204 a0 a1 a2 = some R) : Con (EG g) 204 [G.int a0, G.int a1, G.ref [G.sl 3 (List.map S151.c a2)]] (G.int R) := by
 unfold s204 at hR;refine qn Tryz.func204 rfl rfl fun w0 M0 => ?_;refine qb (qa [.p] (sa rfl rfl (qc (qb ?_))));obtain ⟨y1, by1, hR⟩ := qk hR;obtain ⟨y2, by2, hR⟩ := qk hR;refine zu [.p, .p, .p, .p, .p, .p, .p, .p, .p, .p, .p, .p] (by kernel_rfl) (su (qf rfl ty25 rfl) rfl (sm rfl rfl (su (zh (f := S151.c) (l := a2) (a := y1) rfl Tryz.underlying25 vp rfl rfl (z5 by1) (qz by1)) rfl (su (qd rfl xy rfl) rfl (su (qf rfl ty3 rfl) rfl (su (qf rfl ty25 rfl) rfl ?_))))));refine sm rfl rfl (su (zh (f := S151.c) (l := a2) (a := y2) rfl Tryz.underlying25 vp rfl rfl (z5 by2) (qz by2)) rfl (su (qd rfl xy rfl) rfl (su (qf rfl ty3 rfl) rfl (su (qg rfl K167 rfl (c167 y1.Moment y2.Moment) (qe rfl (qe rfl qm))) rfl (sa rfl rfl (qc ?_))))));refine qo ?_;obtain rfl := Option.some.inj hR;exact zb rfl (rv_g rfl)
def s168_l1 (a0 : List S151) : List S151 → Nat → (List Int) → Option (List Int)
 | [], k4, x2 => bindO (s203 x2 (fun x0 x1 => s204 x0 x1 a0)) fun r7 => some r7
 | y5 :: t6, k4, x2 => bindO (ixO x2 ((k4 : Nat) : Int)) fun y8 => s168_l1 a0 t6 (k4 + 1) (List.set x2 (Int.toNat ((k4 : Nat) : Int)) ((k4 : Nat) : Int))
def s168 (a0 : List S151) : Option (List Int) :=
 s168_l1 a0 a0 0 (List.replicate (List.length a0) 0)
theorem n168 {g : List (Nat × List Value)} (a0 : List S151) {R : List Int}  (hb0 : a0.length ≤ 12) (hR : s168 a0 = some R) : ConN (EG g) 168 [G.sl 3 (List.map S151.c a0)] 3 1 (List.map cInt R) := by
 unfold s168 at hR;refine kl Tryz.func168 rfl rfl fun w0 M0 => ?_;refine zd (f := S151.c) (l := a0) 0 rfl fun hla0 => ?_;refine qb (qa [.p, .w] (su (zl rfl rfl) rfl (sw (zt 2 3 1 rfl rfl rfl) rfl (qc (qb (qa [.p, .p, .w, .p] ?_))))));refine su (qf rfl ty25 rfl) rfl (su (qv (f := S151.c) (l := a0) rfl Tryz.underlying25 rfl) rfl (sw (qdd (f := cInt) (z := 0) 7 rfl mk82 rfl rfl rfl (by first | exact Int.le_refl _ | omega) (by first | decide | omega) rfl rfl rfl) rfl (su (qx rfl rfl) rfl (qc (qb (qb ?_))))));refine qa [.p, .p, .p] (su (qf rfl ty25 rfl) rfl (su (qv (f := S151.c) (l := a0) rfl Tryz.underlying25 rfl) rfl (sm rfl rfl (qc (qi (qq (γ := Nat × (List S151) × (List Int)) (fun g => ([(1, .g (G.ref [G.sl 3 (List.map S151.c a0)])), (3, .osl 7 1 0 (List.length a0)), (9, .g (G.int (List.length a0 : Int))), (10, .g (G.int ((g.1 : Nat) : Int)))], [(7, .arr 3 1 (List.map cInt g.2.2))])) (fun g => List.length g.2.2 = List.length a0 ∧ a0.drop g.1 = g.2.1 ∧ s168_l1 a0 g.2.1 g.1 g.2.2 = some R) (fun g => List.length g.2.1) ⟨rfl, (0, a0, List.replicate (List.length a0) 0), ⟨rfl, rfl, rfl, rfl, trivial⟩, ⟨rfl, trivial⟩, rfl, ⟨List.length_replicate, rfl, hR⟩, trivial⟩ ?_))))))
 ·rintro ⟨k4, t6, x2⟩ ⟨ln3, hd, hR⟩;replace hd : a0.drop k4 = t6 := hd;replace hR : s168_l1 a0 t6 k4 x2 = some R := hR;replace ln3 : List.length x2 = List.length a0 := ln3;refine qb (qa [.p] (su (qu rfl rfl rfl) rfl (qc (qb (qj _ rfl (fun h1 => ?_) (fun h1 => ?_))))))
  ·replace h1 : (decide (((k4 : Nat) : Int) < (List.length a0 : Int))) = true := h1;obtain ⟨y5, t6, rfl, hx1, hd⟩ := ze hd (decT h1);replace h1 := decT h1;rw [s168_l1] at hR;(try dsimp only at hR);refine ql (qb (qi (qb (qa [.p, .p] (sm rfl rfl (sa rfl rfl ?_))))));refine qc ?_;obtain ⟨y8, by8, hR⟩ := qk hR;refine qa [.p, .p, .p, .p, .w] (su (qp rfl rfl) rfl (sm rfl rfl (sm rfl rfl (su (jl rfl Tryz.underlying82 ty3 rfl rfl (z5 by8) (Nat.lt_of_lt_of_eq (jk (qz by8)) ln3)) rfl (jf rfl rfl (vx (f := cInt) (l := x2) (a' := ((k4 : Nat) : Int)) rfl ty3 rfl rfl rfl (Nat.lt_of_lt_of_eq (Nat.lt_of_lt_of_eq (jk (qz by8)) ln3) (Eq.symm ln3)) rfl (fun _ => rfl)) (qc ?_))))));refine qa [.p, .p] (su (zc rfl rfl rfl iE) rfl (sm rfl rfl (qc ?_)));exact ⟨rfl, (k4 + 1, t6, List.set x2 (Int.toNat ((k4 : Nat) : Int)) ((k4 : Nat) : Int)), ⟨rfl, rfl, rfl, rfl, trivial⟩, ⟨rfl, trivial⟩, rfl, ⟨((List.length_set ..).trans ln3), hd, hR⟩, by simp⟩
  ·replace h1 : (decide (((k4 : Nat) : Int) < (List.length a0 : Int))) = false := h1;obtain rfl := zm hd (decF h1);rw [s168_l1] at hR;refine qw ?_;refine qb ?_;obtain ⟨r7, br7, hR⟩ := qk hR;refine qa [.p, .p, .w] (su (qp rfl rfl) rfl (su (wo rfl rfl rfl) rfl (sw (jy 0 7 rfl K203 rfl (c203 x2 (fun x0 x1 => s204 x0 x1 a0) ln3 qc2 K204 (fun x0 x1 r_ h_ => c204 x0 x1 a0 h_) iA br7) (zp rfl rfl (zp rfl rfl xx)) rfl rfl rfl) rfl (qc (qb (qa [.p, .p] ?_))))));refine su (qp rfl rfl) rfl (su (qx rfl rfl) rfl (qc (qo ?_)));obtain rfl := Option.some.inj hR;exact kz rfl rfl rfl ((List.length_map ..).trans ((qny br7).trans ln3))
theorem qks (a0 : List S151) : ∀ (l : List S151) (k : Nat) (x r : List Int), s168_l1 a0 l k x = some r → r.length = x.length
 | [], k, x, r, h => by
  rw [s168_l1] at h;obtain ⟨y, h1, h⟩ := qk h
  cases h
  exact qny h1
 | y :: l, k, x, r, h => by
  rw [s168_l1] at h;obtain ⟨z, h1, h⟩ := qk h;have := qks a0 l _ _ _ h
  simpa using this
theorem qry {a0 : List S151} {r : List Int} (h : s168 a0 = some r) : r.length = a0.length := by
 have := qks a0 _ _ _ _ h
 simpa using this
end Go.Sim
set_option maxRecDepth 10000
namespace Go.Sim
open Go.Proofs
def s142 (a0 : S23) (a1 : S151) (a2 : S151) : Bool :=
 ((eqAnd [decide (a2.Name = a1.Name), decide (a2.Moment = a2.Moment), decide (a2.Kind = a1.Kind)]) && (decide (IntKind.i64.wrap (a1.Moment - a0.Before) ≤ a2.Moment))) && (decide (a2.Moment ≤ IntKind.i64.wrap (a1.Moment + a0.After)))
theorem c142 {g : List (Nat × List Value)} (a0 : S23) (a1 : S151) (a2 : S151)    : Con (EG g) 142 [G.agg [G.int a0.Before, G.int a0.After, G.int a0.Notice, G.int a0.Share, G.sl 1 (List.map cStr a0.Causes), G.int a0.Off, G.int a0.Run], G.agg [G.str a1.Name, G.int a1.Moment, G.str a1.Kind], G.agg [G.str a2.Name, G.int a2.Moment, G.str a2.Kind]] (G.bool (s142 a0 a1 a2)) := by
 generalize hR : s142 a0 a1 a2 = R;unfold s142 at hR;refine qn Tryz.func142 rfl rfl fun w0 M0 => ?_;refine qb (qa [.p, .p, .p, .p] (su (zl rfl rfl) rfl (su (zl rfl rfl) rfl (su (zl rfl rfl) rfl (sa rfl rfl (qc ?_))))));refine qb (qa [.p, .p, .p, .p, .p, .p, .p, .w, .w] (su (qd rfl qde rfl) rfl (su (qf rfl ty9 rfl) rfl (su (qd rfl xy rfl) rfl (su (qf rfl ty3 rfl) rfl (su (qd rfl qjh rfl) rfl ?_))))));refine su (qf rfl ty9 rfl) rfl (su (je rfl z152 rfl qwx (zr rfl (zr rfl (zr rfl kw))) rfl) rfl (sw (zq 7 rfl z152 rfl rfl) rfl (jf rfl rfl (za (tv := .g (G.agg [G.str a1.Name, G.int a2.Moment, G.str a1.Kind])) rfl vp rfl rfl rfl rfl rfl) (qc (qb (qa [.p, .r, .p, .p, .p, .p, .p, .p, .p, .p, .p, .p, .p, .p, .p, .p, .p, .p, .p, .p, .p, .p, .p, .p] ?_))))));refine su (qt rfl vp rfl rfl rfl) rfl (sr (zx rfl vp rfl rfl rfl rfl) rfl (su (qpp [.string a2.Name, .int .i64 a2.Moment, .string a2.Kind] [.string a1.Name, .int .i64 a2.Moment, .string a1.Kind] rfl qtr rfl rfl rfl rfl rfl) rfl (sm rfl rfl (sg rfl rfl (fun h => qd rfl xy rfl) rfl (sg rfl rfl (fun h => qf rfl ty3 (gd h rfl)) rfl (sg rfl rfl (fun h => qd rfl xy rfl) rfl ?_))))));refine sg rfl rfl (fun h => qf rfl ty3 (gd h rfl)) rfl (sg rfl rfl (fun h => qd rfl qrl rfl) rfl (sg rfl rfl (fun h => qf rfl ty3 (gd h rfl)) rfl (sg rfl rfl (fun h => jb rfl (gd h rfl) (gd h rfl)) rfl (sg rfl rfl (fun h => ko rfl (gd h rfl) (gd h rfl)) rfl (su (zf rfl rfl rfl rfl) rfl (sm rfl rfl ?_))))));refine sg rfl rfl (fun h => qd rfl xy rfl) rfl (sg rfl rfl (fun h => qf rfl ty3 (gd h rfl)) rfl (sg rfl rfl (fun h => qd rfl xy rfl) rfl (sg rfl rfl (fun h => qf rfl ty3 (gd h rfl)) rfl (sg rfl rfl (fun h => qd rfl qrm rfl) rfl (sg rfl rfl (fun h => qf rfl ty3 (gd h rfl)) rfl (sg rfl rfl (fun h => z6 rfl (gd h rfl) (gd h rfl)) rfl ?_))))));refine sg rfl rfl (fun h => j8 rfl (gd h rfl) (gd h rfl)) rfl (su (zf rfl rfl rfl rfl) rfl (sa rfl rfl (qc (qo ?_))));subst hR;exact zb rfl (rv_g rfl)
def s115_j1 (rec1 : Nat → (List S154) → (List (Int × Bool)) → Option (List S154)) (k6 : Nat) (x9 : List S154) (x10 : List (Int × Bool)) : Option (List S154) :=
 rec1 (k6 + 1) x9 x10
def s115_l2 (rec1 : Nat → (List S154) → (List (Int × Bool)) → Option (List S154)) (a0 : S23) (a1 : List S151) (a2 : List S151) (x3 : List S154) (x5 : List (Int × Bool)) (k6 : Nat) (y7 : Int) : List Int → Nat → Option (List S154)
 | [], k12 => s115_j1 rec1 k6 x3 x5
 | y13 :: t14, k12 => bindO (bif !(mgetD x5 y13 false) then ixO a1 y7 else some default) fun y15 => bindO (bif !(mgetD x5 y13 false) then ixO a2 y13 else some default) fun y16 => (bif (!(mgetD x5 y13 false)) && (s142 a0 y15 y16) then s115_j1 rec1 k6 (x3 ++ [(S154.mk y7 y13)]) (mset x5 y13 true) else s115_l2 rec1 a0 a1 a2 x3 x5 k6 y7 t14 (k12 + 1))
def s115_l1 (a0 : S23) (a1 : List S151) (a2 : List S151) (r1 : List Int) : List Int → Nat → (List S154) → (List (Int × Bool)) → Option (List S154)
 | [], k6, x3, x5 => some x3
 | y7 :: t8, k6, x3, x5 => s115_l2 (fun k_ z0_ z1_ => s115_l1 a0 a1 a2 r1 t8 k_ z0_ z1_) a0 a1 a2 x3 x5 k6 y7 r1 0
def s115 (a0 : S23) (a1 : List S151) (a2 : List S151) : Option (List S154) :=
 bindO (s168 a2) fun r1 => bindO (s168 a1) fun r2 => s115_l1 a0 a1 a2 r1 r2 0 [] []
end Go.Sim
set_option maxRecDepth 10000
namespace Go.Sim
open Go.Proofs
def s35 (a0 : List Int) : Int :=
 (s89 a0)
theorem c35 {g : List (Nat × List Value)} (a0 : List Int)    : Con (EG g) 35 [G.sl 1 (List.map cInt a0)] (G.int (s35 a0)) := by
 generalize hR : s35 a0 = R;unfold s35 at hR;refine qn Tryz.func35 rfl rfl fun w0 M0 => ?_;refine zd (f := cInt) (l := a0) 0 rfl fun hla0 => ?_;refine qb (qa [.p] (sa rfl rfl (qc (qb (qa [.p, .p, .p] (sm rfl rfl ?_))))));refine su (qg rfl K89 rfl (c89 a0) (qe rfl qm)) rfl (sa rfl rfl (qc (qo ?_)));subst hR;exact zb rfl (rv_g rfl)
def s36_j1  (x1 : Int) : Int :=
 x1
def s36 (a0 : S55) : Int :=
 (bif (decide ((s89 [(s90 a0.Flown 0 512), (s90 a0.Due 0 512)]) = 0)) && (decide (a0.Due < a0.Flown)) then s36_j1 11 else s36_j1 (s89 [(s90 a0.Flown 0 512), (s90 a0.Due 0 512)]))
def s105 (a0 : S23) (a1 : S55) : Int :=
 (s84 [(s23 a0), (s85 a1.Flown 0 512), (s85 a1.Due 0 512), (s86 (decide (a1.Due < a1.Flown)) 11)])
def s106 (a0 : S23) (a1 : S55) : Bool :=
 (decide (0 < a1.Due)) && (decide (IntKind.i64.wrap (a0.Share * a1.Due) ≤ IntKind.i64.wrap (100 * a1.Flown)))
theorem c106 {g : List (Nat × List Value)} (a0 : S23) (a1 : S55)    : Con (EG g) 106 [G.agg [G.int a0.Before, G.int a0.After, G.int a0.Notice, G.int a0.Share, G.sl 1 (List.map cStr a0.Causes), G.int a0.Off, G.int a0.Run], G.agg [G.int a1.Flown, G.int a1.Due]] (G.bool (s106 a0 a1)) := by
 generalize hR : s106 a0 a1 = R;unfold s106 at hR;refine qn Tryz.func106 rfl rfl fun w0 M0 => ?_;refine qb (qa [.p, .p, .p] (su (zl rfl rfl) rfl (su (zl rfl rfl) rfl (sa rfl rfl (qc (qb ?_))))));refine qa [.p, .p, .p, .p, .p, .p, .p, .p, .p, .p, .p, .p, .p, .p, .p] (su (qd rfl qkt rfl) rfl (su (qf rfl ty3 rfl) rfl (su (z0 rfl rfl rfl) rfl (sm rfl rfl (sg rfl rfl (fun h => qd rfl qnz rfl) rfl (sg rfl rfl (fun h => qf rfl ty3 (gd h rfl)) rfl ?_))))));refine sg rfl rfl (fun h => qa2 rfl rfl (gd h rfl)) rfl (sg rfl rfl (fun h => qd rfl qro rfl) rfl (sg rfl rfl (fun h => qf rfl ty3 (gd h rfl)) rfl (sg rfl rfl (fun h => qd rfl qkt rfl) rfl (sg rfl rfl (fun h => qf rfl ty3 (gd h rfl)) rfl (sg rfl rfl (fun h => qa2 rfl (gd h rfl) (gd h rfl)) rfl (sg rfl rfl (fun h => ko rfl (gd h rfl) (gd h rfl)) rfl ?_))))));refine su (zf rfl rfl rfl rfl) rfl (sa rfl rfl (qc (qo ?_)));subst hR;exact zb rfl (rv_g rfl)
def s33 (a0 : S23) (a1 : S55) : Bool × Int :=
 (bif decide ((s105 a0 a1) ≠ 0) then (false, (s105 a0 a1)) else ((s106 a0 a1), 0))
def s34 (a0 : S23) (a1 : S55) : Int × Int :=
 (bif decide ((s105 a0 a1) ≠ 0) then (0, (s105 a0 a1)) else (max 0 (IntKind.i64.wrap ((IntKind.i64.wrap (Int.tdiv (IntKind.i64.wrap ((IntKind.i64.wrap (a0.Share * a1.Due)) + 99)) 100)) - a1.Flown)), 0))
def s37 (a0 : S23) (a1 : S55) : Bool :=
 (decide (0 < a1.Due)) && (decide (IntKind.i64.wrap (a0.Share * a1.Due) ≤ IntKind.i64.wrap (100 * a1.Flown)))
theorem c37 {g : List (Nat × List Value)} (a0 : S23) (a1 : S55)    : Con (EG g) 37 [G.agg [G.int a0.Before, G.int a0.After, G.int a0.Notice, G.int a0.Share, G.sl 1 (List.map cStr a0.Causes), G.int a0.Off, G.int a0.Run], G.agg [G.int a1.Flown, G.int a1.Due]] (G.bool (s37 a0 a1)) := by
 generalize hR : s37 a0 a1 = R;unfold s37 at hR;refine qn Tryz.func37 rfl rfl fun w0 M0 => ?_;refine qb (qa [.p, .p, .p] (su (zl rfl rfl) rfl (su (zl rfl rfl) rfl (sa rfl rfl (qc (qb ?_))))));refine qa [.p, .p, .p, .p, .p, .p, .p, .p, .p, .p, .p, .p, .p, .p, .p] (su (qd rfl qkf rfl) rfl (su (qf rfl ty3 rfl) rfl (su (z0 rfl rfl rfl) rfl (sm rfl rfl (sg rfl rfl (fun h => qd rfl qni rfl) rfl (sg rfl rfl (fun h => qf rfl ty3 (gd h rfl)) rfl ?_))))));refine sg rfl rfl (fun h => qa2 rfl rfl (gd h rfl)) rfl (sg rfl rfl (fun h => qd rfl qrk rfl) rfl (sg rfl rfl (fun h => qf rfl ty3 (gd h rfl)) rfl (sg rfl rfl (fun h => qd rfl qkf rfl) rfl (sg rfl rfl (fun h => qf rfl ty3 (gd h rfl)) rfl (sg rfl rfl (fun h => qa2 rfl (gd h rfl) (gd h rfl)) rfl (sg rfl rfl (fun h => ko rfl (gd h rfl) (gd h rfl)) rfl ?_))))));refine su (zf rfl rfl rfl rfl) rfl (sa rfl rfl (qc (qo ?_)));subst hR;exact zb rfl (rv_g rfl)
def s38_l1  : Nat → Int → Int
 | 0, x1 => x1
 | k2 + 1, x1 => s38_l1 k2 (IntKind.i64.wrap (x1 + 1))
def s38 (a0 : S23) (a1 : S55) : Int :=
 s38_l1 (((a0.Share * a1.Due + 99) / 100 - a1.Flown - 0).toNat) 0
section
variable {E : Env}
end
section
variable {E : Env} {w0 : World} {M0 : Nat → Prop} {ops : Array Oper} {md : Region.Mode} {cl : Nat → Cls}
theorem qji {K : ASt → Prop} {i : Nat} {oi : Oper} (hi : ops[i]? = some oi) (D : Nat → Bool) (hD : ∀ j, D j = true → ∃ oj, ops[j]? = some oj ∧ ∃ e ∈ oj.after, Region.binds md e = true ∧ (e.on = i ∨ D e.on = true)) : ∀ (fuel : Nat) (listed : Array Bool) (s u : ASt),
  (∀ j, D j = true → listed.getD j true = false) →
  (∀ j oj, ops[j]? = some oj → j ≠ i → listed.getD j true = false → D j = false → oi.apart ops oj = true ∧ okC oi oj (cl i) (cl j) = true) →
  i ∈ Region.ready md ops listed → AStep E ops oi (cl i) s u → anyA E md ops cl K fuel (listed.setIfInBounds i true) u → anyA E md ops cl K (fuel + 1) listed s := by
 intro fuel
 induction fuel with
 | zero =>
  intro listed s u _ _ hr hy H;refine ⟨fun h => (by rw [h] at hr; cases hr), fun j hj => ?_⟩
  by_cases hji : j = i
  ·subst hji; unfold aOp; simp only [hi]; exact ⟨u, hy, H⟩
  ·have := ready_mono hj hji;rw [H.1] at this
   cases this
 | succ fuel ih =>
  intro listed s u hL hfree hr hy H;refine ⟨fun h => (by rw [h] at hr; cases hr), fun j hj => ?_⟩
  by_cases hji : j = i
  ·subst hji; unfold aOp; simp only [hi]; exact ⟨u, hy, H⟩
  ·have h1 := H.2 j (ready_mono hj hji);obtain ⟨hjun, oj, hoj, hall⟩ := mem_ready.1 hj
   have hnD : D j = false := by
    cases hd : D j with
    | false => rfl
    | true =>
     exfalso
     obtain ⟨oj', ho', e, he, hb, hon⟩ := hD j hd
     have : oj' = oj := by rw [hoj] at ho'; exact (Option.some.inj ho').symm
     subst this;have h2 := hall e he hb
     rcases hon with heq | hDe
     ·have h0 := (mem_ready.1 hr).1;rw [heq] at h2
      rcases Nat.lt_or_ge i listed.size with h' | h'
      ·simp [h'] at h0 h2; rw [h0] at h2; cases h2
      ·simp [Array.getElem?_eq_none h'] at h2
     ·have h0 := hL e.on hDe
      rcases Nat.lt_or_ge e.on listed.size with h' | h'
      ·simp [h'] at h0 h2; rw [h0] at h2; cases h2
      ·simp [Array.getElem?_eq_none h'] at h2
   unfold aOp at h1 ⊢;simp only [hoj] at h1 ⊢;obtain ⟨t, h2, h3⟩ := h1;obtain ⟨hap, hok⟩ := hfree j oj hoj hji hjun hnD;obtain ⟨s2, h4, h5⟩ := AStep.swap hap hok hy h2;refine ⟨s2, h4, ih (listed.setIfInBounds j true) s2 t (fun k hk => ?_) (fun k ok hk hki hun hno => ?_) (ready_mono hr (Ne.symm hji)) h5 ?_⟩
   ·by_cases hjk : j = k
    ·subst hjk; rw [hk] at hnD; cases hnD
    ·rw [getD_set_ne true hjk]; exact hL k hk
   ·refine hfree k ok hk hki ?_ hno
    by_cases hjk : j = k
    ·subst hjk; exact hjun
    ·rw [getD_set_ne true hjk] at hun; exact hun
   ·rw [Array.setIfInBounds_comm _ _ hji];exact h3
def descs (md : Region.Mode) (ops : Array Oper) (i : Nat) : List Nat :=
 (List.range ops.size).foldl (fun acc j => match ops[j]? with
  | some oj => bif oj.after.any (fun e => Region.binds md e && (e.on == i || acc.contains e.on)) then j :: acc else acc
  | none => acc) []
def freeC2 (md : Region.Mode) (ops : Array Oper) (cl : Nat → Cls) (listed : Array Bool) (i : Nat) (L : List Nat) : Bool :=
 match ops[i]? with
 | none => false
 | some oi => ((List.range ops.size).all fun j => j == i || listed.getD j true || L.contains j || match ops[j]? with
   | some oj => oi.apart ops oj && okC oi oj (cl i) (cl j)
   | none => true) && L.all fun j => !listed.getD j true && match ops[j]? with
   | some oj => oj.after.any (fun e => Region.binds md e && (e.on == i || L.contains e.on))
   | none => false
def lexC2 (md : Region.Mode) (ops : Array Oper) (cl : Nat → Cls) : Nat → Nat → Array Bool → Bool
 | 0, _, listed => (Region.ready md ops listed).isEmpty
 | fuel + 1, k, listed => (Region.ready md ops listed).contains k && freeC2 md ops cl listed k (descs md ops k) && lexC2 md ops cl fuel (k + 1) (listed.setIfInBounds k true)
theorem qhv {K : ASt → Prop} : ∀ (l : List Oper) (cs : List Cls) (k : Nat) (listed : Array Bool) (s : ASt), (∀ j, l[j]? = ops[k + j]?) → (∀ j c, cs[j]? = some c → cl (k + j) = c) →
  lexC2 md ops cl l.length k listed = true → AOps E ops l cs s K → anyA E md ops cl K l.length listed s
 | [], [], _, _, _, _, _, hB, h => ⟨by simpa [lexC2] using hB, h⟩
 | o :: l, c :: cs, k, listed, s, hl, hc, hB, h => by
  have h0 : ops[k]? = some o := by simpa using (hl 0).symm
  have hc0 : cl k = c := by simpa using hc 0 c (by simp)
  simp only [List.length_cons, lexC2, Bool.and_eq_true] at hB;obtain ⟨⟨hr, hf⟩, hB'⟩ := hB;obtain ⟨s', h1, h2⟩ := h;subst hc0;simp only [freeC2, h0, Bool.and_eq_true, List.all_eq_true, List.mem_range] at hf;obtain ⟨hf1, hf2⟩ := hf;refine qji h0 (fun j => (descs md ops k).contains j) (fun j hj => ?_) l.length listed s s' (fun j hj => ?_) (fun j oj hoj hne hun hnD => ?_) (by simpa using hr) h1
   (qhv l cs (k + 1) _ _ (fun j => by have := hl (j + 1); simpa [Nat.add_assoc, Nat.add_comm 1 j] using this)
    (fun j c hj => by have := hc (j + 1) c (by simpa using hj); simpa [Nat.add_assoc, Nat.add_comm 1 j] using this) hB' h2)
  ·have h3 := (hf2 j (List.contains_iff_mem.1 hj)).2
   cases ho : ops[j]? with
   | none => rw [ho] at h3; cases h3
   | some oj =>
    rw [ho] at h3;obtain ⟨e, he, hb⟩ := Array.any_eq_true'.1 h3;simp only [Bool.and_eq_true, Bool.or_eq_true, beq_iff_eq] at hb;exact ⟨oj, rfl, e, he, hb.1, hb.2⟩
  ·have h3 := (hf2 j (List.contains_iff_mem.1 hj)).1
   simpa using h3
  ·have h3 := hf1 j (Array.getElem?_eq_some_iff.1 hoj).1;simp only [Bool.or_eq_true, beq_iff_eq] at h3
   rcases h3 with ((h3 | h3) | h3) | h3
   ·exact absurd h3 hne
   ·rw [hun] at h3; cases h3
   ·rw [h3] at hnD; cases hnD
   ·rw [hoj] at h3
    simpa using h3
 | [], _ :: _, _, _, _, _, _, _, h => h.elim
 | _ :: _, [], _, _, _, _, _, _, h => h.elim
def lexOk2 (ops : Array Oper) (cs : List Cls) : Bool := lexC2 .any ops (fun i => cs.getD i .k) ops.size 0 (Array.replicate ops.size false)
theorem qfn {id : Nat} {ops : Array Oper} {Q : Exit → ASt → Prop} {s : ASt} (cs : List Cls) (hB : lexOk2 ops cs = true) (h : AOps E ops ops.toList cs s (Q .normal)) : AWp E w0 M0 (.region id ops true) Q s := by
 intro a w ha;refine wp_region_any E.orders ?_;have h1 := qhv (md := .any) (cl := fun i => cs.getD i .k) ops.toList cs 0 (Array.replicate ops.size false) s (by simp) (fun j c hj => by simp [hj]) (by simpa [lexOk2] using hB) h;have h2 := anyA.sound (w0 := w0) (M0 := M0) (Q := Q) _ _ s h1 a _ ha.draw
 simpa using h2
end
theorem qv1 {α : Type} {c c' : Bool} {a b r : α} (h : (bif c then a else b) = r) (h1 : c' = true) (e : c' = c := by simp) : a = r := by subst e; rw [h1] at h; exact h
end Go.Sim
set_option maxRecDepth 10000
namespace Go.Sim
open Go.Proofs
def s145 (a0 : S23) (a1 : S151) (a2 : S151) : Bool :=
 (((decide (a1.Name = a2.Name)) && (decide (a1.Kind = a2.Kind))) && (decide (IntKind.i64.wrap (a1.Moment - a0.Before) ≤ a2.Moment))) && (decide (a2.Moment ≤ IntKind.i64.wrap (a1.Moment + a0.After)))
theorem c145 {g : List (Nat × List Value)} (a0 : S23) (a1 : S151) (a2 : S151)    : Con (EG g) 145 [G.agg [G.int a0.Before, G.int a0.After, G.int a0.Notice, G.int a0.Share, G.sl 1 (List.map cStr a0.Causes), G.int a0.Off, G.int a0.Run], G.agg [G.str a1.Name, G.int a1.Moment, G.str a1.Kind], G.agg [G.str a2.Name, G.int a2.Moment, G.str a2.Kind]] (G.bool (s145 a0 a1 a2)) := by
 generalize hR : s145 a0 a1 a2 = R;unfold s145 at hR;refine qn Tryz.func145 rfl rfl fun w0 M0 => ?_;refine qb (qa [.p, .p, .p, .p] (su (zl rfl rfl) rfl (su (zl rfl rfl) rfl (su (zl rfl rfl) rfl (sa rfl rfl (qc ?_))))));refine qb (qa [.p, .p, .p, .p, .p, .p, .p, .p, .p, .p, .p, .p, .p, .p, .p, .p, .p, .p, .p, .p, .p, .p, .p, .p, .p, .p, .p, .p, .p, .p, .p, .p, .p] (su (qd rfl qar rfl) rfl (su (qf rfl ty9 rfl) rfl (su (qd rfl qar rfl) rfl (su (qf rfl ty9 rfl) rfl (su (jr rfl rfl rfl) rfl ?_))))));refine sm rfl rfl (sg rfl rfl (fun h => qd rfl qfl rfl) rfl (sg rfl rfl (fun h => qf rfl ty9 (gd h rfl)) rfl (sg rfl rfl (fun h => qd rfl qfl rfl) rfl (sg rfl rfl (fun h => qf rfl ty9 (gd h rfl)) rfl (sg rfl rfl (fun h => jr rfl (gd h rfl) (gd h rfl)) rfl (su (zf rfl rfl rfl rfl) rfl ?_))))));refine sm rfl rfl (sg rfl rfl (fun h => qd rfl vo rfl) rfl (sg rfl rfl (fun h => qf rfl ty3 (gd h rfl)) rfl (sg rfl rfl (fun h => qd rfl vo rfl) rfl (sg rfl rfl (fun h => qf rfl ty3 (gd h rfl)) rfl (sg rfl rfl (fun h => qd rfl qrh rfl) rfl (sg rfl rfl (fun h => qf rfl ty3 (gd h rfl)) rfl ?_))))));refine sg rfl rfl (fun h => jb rfl (gd h rfl) (gd h rfl)) rfl (sg rfl rfl (fun h => ko rfl (gd h rfl) (gd h rfl)) rfl (su (zf rfl rfl rfl rfl) rfl (sm rfl rfl (sg rfl rfl (fun h => qd rfl vo rfl) rfl (sg rfl rfl (fun h => qf rfl ty3 (gd h rfl)) rfl (sg rfl rfl (fun h => qd rfl vo rfl) rfl ?_))))));refine sg rfl rfl (fun h => qf rfl ty3 (gd h rfl)) rfl (sg rfl rfl (fun h => qd rfl qri rfl) rfl (sg rfl rfl (fun h => qf rfl ty3 (gd h rfl)) rfl (sg rfl rfl (fun h => z6 rfl (gd h rfl) (gd h rfl)) rfl (sg rfl rfl (fun h => j8 rfl (gd h rfl) (gd h rfl)) rfl (su (zf rfl rfl rfl rfl) rfl (sa rfl rfl ?_))))));refine qc (qo ?_);subst hR;exact zb rfl (rv_g rfl)
def s80_l1 (a1 : Int) : List Int → Nat → Bool
 | [], k2 => false
 | y3 :: t4, k2 => (bif decide (y3 = a1) then true else s80_l1 a1 t4 (k2 + 1))
def s80 (a0 : List Int) (a1 : Int) : Bool :=
 s80_l1 a1 a0 0
theorem c80 {g : List (Nat × List Value)} (a0 : List Int) (a1 : Int)    : Con (EG g) 80 [G.sl 1 (List.map cInt a0), G.int a1] (G.bool (s80 a0 a1)) := by
 generalize hR : s80 a0 a1 = R;unfold s80 at hR;refine qn Tryz.func80 rfl rfl fun w0 M0 => ?_;refine zd (f := cInt) (l := a0) 0 rfl fun hla0 => ?_;refine qb (qa [.p] (sa rfl rfl (qc (qb (qb (qa [.p] ?_))))));refine sa rfl rfl (qc (qi (qq (γ := Nat × (List Int)) (fun g => ([(0, .g (G.sl 1 (List.map cInt a0))), (1, .g (G.int a1)), (5, .g (G.int ((g.1 : Nat) : Int)))], [])) (fun g => a0.drop g.1 = g.2 ∧ s80_l1 a1 g.2 g.1 = R) (fun g => List.length g.2) ⟨rfl, (0, a0), ⟨rfl, rfl, rfl, trivial⟩, trivial, rfl, ⟨rfl, hR⟩, trivial⟩ ?_)))
 ·rintro ⟨k2, t4⟩ ⟨hd, hR⟩;replace hd : a0.drop k2 = t4 := hd;replace hR : s80_l1 a1 t4 k2 = R := hR;refine qb (qb (qa [.p, .p, .p, .p] (sm rfl rfl (sm rfl rfl (su (qv (f := cInt) (l := a0) rfl Tryz.underlying82 rfl) rfl (su (qu rfl rfl rfl) rfl ?_))))));refine qc (zd (f := cInt) (l := a0) 0 rfl fun hlz1 => ?_);refine qj _ rfl (fun h1 => ?_) (fun h1 => ?_)
  ·replace h1 : (decide (((k2 : Nat) : Int) < (List.length a0 : Int))) = true := h1;obtain ⟨y3, t4, rfl, hx1, hd⟩ := ze hd (decT h1);replace h1 := decT h1;rw [s80_l1] at hR;(try dsimp only at hR);refine ql (qb (qi (qb (qa [.p, .p, .p, .p, .p, .p] (sm rfl rfl (sm rfl rfl ?_))))));refine su (zh (f := cInt) (l := a0) (a := y3) rfl Tryz.underlying82 ty3 rfl rfl (Int.natCast_nonneg _) hx1) rfl (su (qf rfl ty3 rfl) rfl (sm rfl rfl (su (jh rfl rfl rfl) rfl (qc (qj _ rfl (fun h3 => ?_) (fun h3 => ?_))))))
   ·replace hR := zj hR h3;refine qb (qa [.p] (sa rfl rfl (qc (qo ?_))));subst hR;exact zb rfl (rv_g rfl)
   ·replace h3 : (decide (y3 = a1)) = false := h3;replace hR := zk hR h3;(try simp only [bB] at h3);refine ql (qa [.p, .p, .p] (sm rfl rfl (su (zc rfl rfl rfl iE) rfl (sa rfl rfl (qc ?_)))));exact ⟨rfl, (k2 + 1, t4), ⟨rfl, rfl, rfl, trivial⟩, trivial, rfl, ⟨hd, hR⟩, by simp⟩
  ·replace h1 : (decide (((k2 : Nat) : Int) < (List.length a0 : Int))) = false := h1;obtain rfl := zm hd (decF h1);rw [s80_l1] at hR;refine qw ?_;refine qb (qa [.p] (sa rfl rfl (qc (qo ?_))));subst hR;exact zb rfl (rv_g rfl)
def s169_l2 (rec1 : Nat → (List Int) → Option (List Int)) (a0 : List S151) (x1 : List Int) (k3 : Nat) (y4 : S151) : Nat → Int → Option (List Int)
 | 0, _ => none
 | k7 + 1, x6 => bindO (bif decide (x6 < (List.length x1 : Int)) then ixO x1 x6 else some default) fun y8 => bindO (bif decide (x6 < (List.length x1 : Int)) then ixO a0 y8 else some default) fun y9 => (bif (decide (x6 < (List.length x1 : Int))) && (decide (y9.Moment ≤ y4.Moment)) then s169_l2 rec1 a0 x1 k3 y4 k7 (x6 + 1) else rec1 (k3 + 1) ((([] ++ (List.take (Int.toNat x6) x1)) ++ [((k3 : Nat) : Int)]) ++ (List.drop (Int.toNat x6) x1)))
def s169_l1 (a0 : List S151) : List S151 → Nat → (List Int) → Option (List Int)
 | [], k3, x1 => some x1
 | y4 :: t5, k3, x1 => s169_l2 (fun k_ z0_ => s169_l1 a0 t5 k_ z0_) a0 x1 k3 y4 ((((List.length x1 : Int) - 0).toNat) + 1) 0
def s169 (a0 : List S151) : Option (List Int) :=
 s169_l1 a0 a0 0 []
theorem qhw (rec1 : Nat → List Int → Option (List Int)) (n : Nat) (a0 : List S151) (x1 : List Int) (hrec : ∀ k x r, rec1 k x = some r → r.length = x.length + n) (k3 : Nat) (y4 : S151) : ∀ (k : Nat) (x : Int) (r : List Int), s169_l2 rec1 a0 x1 k3 y4 k x = some r → r.length = x1.length + (n + 1)
 | 0, _, _, h => by rw [s169_l2] at h; cases h
 | k + 1, x, r, h => by
  rw [s169_l2] at h;obtain ⟨z1, _, h⟩ := qk h;obtain ⟨z2, _, h⟩ := qk h
  cases hc : ((decide (x < (List.length x1 : Int))) && (decide (z2.Moment ≤ y4.Moment))) with
  | true => exact qhw rec1 n a0 x1 hrec k3 y4 k _ _ (zj h hc)
  | false =>
   have := hrec _ _ _ (zk h hc);rw [this]
   simp
   omega
theorem qhx (a0 : List S151) : ∀ (l : List S151) (k : Nat) (x r : List Int), s169_l1 a0 l k x = some r → r.length = x.length + l.length
 | [], k, x, r, h => by rw [s169_l1] at h; cases h; simp
 | y :: l, k, x, r, h => by
  rw [s169_l1] at h;have := qhw _ l.length a0 x (fun k x r h => qhx a0 l k x r h) k y _ _ _ h
  simpa using this
theorem qv0 {a0 : List S151} {r : List Int} (h : s169 a0 = some r) : r.length = a0.length := by
 have := qhx _ _ _ _ _ h
 simpa using this
end Go.Sim
set_option maxRecDepth 10000
namespace Go.Sim
open Go.Proofs
def s120_j1 (rec1 : Nat → (List S154) → (List Int) → Option (List S154)) (k5 : Nat) (x8 : List S154) (x9 : List Int) : Option (List S154) :=
 rec1 (k5 + 1) x8 x9
def s120_j2 (rec2 : Nat → Int → Option (List S154)) (k12 : Nat) (x15 : Int) : Option (List S154) :=
 rec2 (k12 + 1) x15
def s120_l2 (rec1 : Nat → (List S154) → (List Int) → Option (List S154)) (a0 : S23) (a1 : List S151) (a2 : List S151) (x2 : List S154) (x3 : List Int) (k5 : Nat) (y6 : Int) : List S151 → Nat → Int → Option (List S154)
 | [], k12, x10 => (bif decide (0 ≤ x10) then s120_j1 rec1 k5 (x2 ++ [(S154.mk y6 x10)]) (x3 ++ [x10]) else s120_j1 rec1 k5 x2 x3)
 | y13 :: t14, k12, x10 => bindO (ixO a1 y6) fun y16 => bindO (bif ((s145 a0 y16 y13) && (!(s80 x3 ((k12 : Nat) : Int)))) && (!(decide (x10 < 0))) then ixO a2 x10 else some default) fun y17 => (bif ((s145 a0 y16 y13) && (!(s80 x3 ((k12 : Nat) : Int)))) && ((decide (x10 < 0)) || (decide (y13.Moment < y17.Moment))) then s120_j2 (fun k_ z0_ => s120_l2 rec1 a0 a1 a2 x2 x3 k5 y6 t14 k_ z0_) k12 ((k12 : Nat) : Int) else s120_j2 (fun k_ z0_ => s120_l2 rec1 a0 a1 a2 x2 x3 k5 y6 t14 k_ z0_) k12 x10)
def s120_l1 (a0 : S23) (a1 : List S151) (a2 : List S151) : List Int → Nat → (List S154) → (List Int) → Option (List S154)
 | [], k5, x2, x3 => some x2
 | y6 :: t7, k5, x2, x3 => s120_l2 (fun k_ z0_ z1_ => s120_l1 a0 a1 a2 t7 k_ z0_ z1_) a0 a1 a2 x2 x3 k5 y6 a2 0 (-1)
def s120 (a0 : S23) (a1 : List S151) (a2 : List S151) : Option (List S154) :=
 bindO (s169 a1) fun r1 => s120_l1 a0 a1 a2 r1 0 [] []
end Go.Sim
set_option maxRecDepth 10000
namespace Go.Sim
open Go.Proofs
def s183 (a0 : ByteArray) : Bool :=
 !decide (a0 = a0)
theorem c183 {g : List (Nat × List Value)} (a0 : ByteArray)    : Con (EG g) 183 [G.str a0] (G.bool (s183 a0)) := by
 generalize hR : s183 a0 = R;unfold s183 at hR;refine qn Tryz.func183 rfl rfl fun w0 M0 => ?_;refine qb (qa [.p] (sa rfl rfl (qc (qb (qa [.p, .p, .p, .p] (sm rfl rfl ?_))))));refine sm rfl rfl (su (j7 rfl rfl rfl) rfl (sa rfl rfl (qc (qo ?_))));subst hR;exact zb rfl (rv_g rfl)
def s133 (a0 : ByteArray) (a1 : ByteArray) : Int :=
 (bif (s183 a0) then (bif (s183 a1) then 0 else (-1)) else (bif (s183 a1) then 1 else (bif strLt a0 a1 then (-1) else (bif !(strLt a0 a1 || decide (a0 = a1)) then 1 else 0))))
theorem c133 {g : List (Nat × List Value)} (a0 : ByteArray) (a1 : ByteArray)    : Con (EG g) 133 [G.str a0, G.str a1] (G.int (s133 a0 a1)) := by
 generalize hR : s133 a0 a1 = R;unfold s133 at hR;refine qn Tryz.func133 rfl rfl fun w0 M0 => ?_;refine qb (qa [.p] (sa rfl rfl (qc (qb (qa [.p, .p, .p] (sm rfl rfl ?_))))));refine su (qg rfl K183 rfl (c183 a0) (qe rfl qm)) rfl (sa rfl rfl (qc (qb (qa [.p, .p, .p] (sm rfl rfl (su (qg rfl K183 rfl (c183 a1) (qe rfl qm)) rfl ?_))))));refine sa rfl rfl (qc (qb (qb (qa [.p] (sm rfl rfl (qc ?_))))));refine qj _ rfl (fun h1 => ?_) (fun h1 => ?_)
 ·replace h1 : ((s183 a0)) = true := h1;replace hR := zj hR h1;(try simp only [bB] at h1);refine qb (qb (qa [.p] (sm rfl rfl (qc (qj _ rfl (fun h2 => ?_) (fun h2 => ?_))))))
  ·replace hR := zj hR h2;refine qb (qa [.p] (sa rfl rfl (qc (qo ?_))));subst hR;exact zb rfl (rv_g rfl)
  ·replace hR := zk hR h2;refine ql (qb (qa [.p] (sa rfl rfl (qc (qo ?_)))));subst hR;exact zb rfl (rv_g rfl)
 ·replace h1 : ((s183 a0)) = false := h1;replace hR := zk hR h1;(try simp only [bB] at h1);refine ql (qb (qb (qa [.p] (sm rfl rfl (qc (qj _ rfl (fun h3 => ?_) (fun h3 => ?_)))))))
  ·replace hR := zj hR h3;refine qb (qa [.p] (sa rfl rfl (qc (qo ?_))));subst hR;exact zb rfl (rv_g rfl)
  ·replace h3 : ((s183 a1)) = false := h3;replace hR := zk hR h3;(try simp only [bB] at h3);refine ql (qb (qb (qa [.p, .p, .p] (sm rfl rfl (sm rfl rfl (su (qnh rfl rfl rfl) rfl ?_))))));refine qc (qj _ rfl (fun h4 => ?_) (fun h4 => ?_))
   ·replace hR := zj hR h4;refine qb (qa [.p] (sa rfl rfl (qc (qo ?_))));subst hR;exact zb rfl (rv_g rfl)
   ·replace h4 : (strLt a0 a1) = false := h4;replace hR := zk hR h4;(try simp only [bB] at h4);refine ql (qb (qb (qa [.p, .p, .p] (sm rfl rfl (sm rfl rfl (su (qts rfl rfl rfl) rfl ?_))))));refine qc (qj _ rfl (fun h5 => ?_) (fun h5 => ?_))
    ·replace hR := zj hR h5;refine qb (qa [.p] (sa rfl rfl (qc (qo ?_))));subst hR;exact zb rfl (rv_g rfl)
    ·replace hR := zk hR h5;refine ql (qb (qa [.p] (sa rfl rfl (qc (qo ?_)))));subst hR;exact zb rfl (rv_g rfl)
def s176_l1  : List Int → Nat → Int
 | [], k2 => 0
 | y3 :: t4, k2 => (bif decide (y3 ≠ 0) then y3 else s176_l1  t4 (k2 + 1))
def s176 (a0 : List Int) : Int :=
 s176_l1 a0 0
theorem c176 {g : List (Nat × List Value)} (a0 : List Int)    : Con (EG g) 176 [G.sl 1 (List.map cInt a0)] (G.int (s176 a0)) := by
 generalize hR : s176 a0 = R;unfold s176 at hR;refine qn Tryz.func176 rfl rfl fun w0 M0 => ?_;refine zd (f := cInt) (l := a0) 0 rfl fun hla0 => ?_;refine qb (qa [.p] (sa rfl rfl (qc (qb (qa [.p] (sa rfl rfl ?_))))));refine qc (qb (qb (qa [.p, .p, .p] (sm rfl rfl (su (qv (f := cInt) (l := a0) rfl Tryz.underlying82 rfl) rfl (sm rfl rfl ?_))))));refine qc (qi (qq (γ := Nat × (List Int)) (fun g => ([(3, .g (G.int 0)), (6, .g (G.sl 1 (List.map cInt a0))), (7, .g (G.int (List.length a0 : Int))), (8, .g (G.int ((g.1 : Nat) : Int)))], [])) (fun g => a0.drop g.1 = g.2 ∧ s176_l1  g.2 g.1 = R) (fun g => List.length g.2) ⟨rfl, (0, a0), ⟨rfl, rfl, rfl, rfl, trivial⟩, trivial, rfl, ⟨rfl, hR⟩, trivial⟩ ?_))
 ·rintro ⟨k2, t4⟩ ⟨hd, hR⟩;replace hd : a0.drop k2 = t4 := hd;replace hR : s176_l1  t4 k2 = R := hR;refine qb (qa [.p] (su (qu rfl rfl rfl) rfl (qc (zd (f := cInt) (l := a0) 6 rfl fun hlz1 => ?_))));refine qb (qj _ rfl (fun h1 => ?_) (fun h1 => ?_))
  ·replace h1 : (decide (((k2 : Nat) : Int) < (List.length a0 : Int))) = true := h1;obtain ⟨y3, t4, rfl, hx1, hd⟩ := ze hd (decT h1);replace h1 := decT h1;rw [s176_l1] at hR;(try dsimp only at hR);refine ql (qb (qi (qb (qa [.p, .p, .p] (su (zh (f := cInt) (l := a0) (a := y3) rfl Tryz.underlying82 ty3 rfl rfl (Int.natCast_nonneg _) hx1) rfl (su (qf rfl ty3 rfl) rfl ?_))))));refine sa rfl rfl (qc (qb (qa [.p, .p, .p] (sm rfl rfl (sm rfl rfl (su (jg rfl rfl rfl) rfl ?_))))));refine qc (qj _ rfl (fun h3 => ?_) (fun h3 => ?_))
   ·replace hR := zj hR h3;refine qb (qa [.p, .p] (sm rfl rfl (sa rfl rfl (qc (qo ?_)))));subst hR;exact zb rfl (rv_g rfl)
   ·replace h3 : (decide (y3 ≠ 0)) = false := h3;replace hR := zk hR h3;(try simp only [bB] at h3);refine ql (qa [.p, .p] (su (zc rfl rfl rfl iE) rfl (sm rfl rfl (qc ?_))));exact ⟨rfl, (k2 + 1, t4), ⟨rfl, rfl, rfl, rfl, trivial⟩, trivial, rfl, ⟨hd, hR⟩, by simp⟩
  ·replace h1 : (decide (((k2 : Nat) : Int) < (List.length a0 : Int))) = false := h1;obtain rfl := zm hd (decF h1);rw [s176_l1] at hR;refine qw ?_;refine qb (qa [.p, .p] (sm rfl rfl (sa rfl rfl (qc (qo ?_)))));subst hR;exact zb rfl (rv_g rfl)
def s172 (a0 : S104) : Bool :=
 decide (a0.Kind = (⟨#[102, 108, 121]⟩))
theorem c172 {g : List (Nat × List Value)} (a0 : S104)    : Con (EG g) 172 [G.agg [G.str a0.Kind, G.str a0.Name, G.int a0.Moment, G.str a0.Move, G.int a0.fFrom, G.int a0.fTo, G.str a0.Cause, G.int a0.Told]] (G.bool (s172 a0)) := by
 generalize hR : s172 a0 = R;unfold s172 at hR;refine qn Tryz.func172 rfl rfl fun w0 M0 => ?_;refine qb (qa [.p, .p] (su (zl rfl rfl) rfl (sa rfl rfl (qc (qb (qa [.p, .p, .p, .p] ?_))))));refine su (qd rfl qb9 rfl) rfl (su (qf rfl ty9 rfl) rfl (su (jr rfl rfl rfl) rfl (sa rfl rfl (qc (qo ?_)))));subst hR;exact zb rfl (rv_g rfl)
def s173 (a0 : S104) : S151 :=
 (S151.mk a0.Name a0.Moment a0.Move)
theorem c173 {g : List (Nat × List Value)} (a0 : S104)    : Con (EG g) 173 [G.agg [G.str a0.Kind, G.str a0.Name, G.int a0.Moment, G.str a0.Move, G.int a0.fFrom, G.int a0.fTo, G.str a0.Cause, G.int a0.Told]] (G.agg [G.str ((s173 a0).Name), G.int ((s173 a0).Moment), G.str ((s173 a0).Kind)]) := by
 generalize hR : s173 a0 = R;unfold s173 at hR;refine qn Tryz.func173 rfl rfl fun w0 M0 => ?_;refine qb (qa [.p, .w] (su (zl rfl rfl) rfl (sw (zq 2 rfl z152 rfl rfl) rfl (qc (qb (qa [.p, .p, .p, .p, .p, .p, .p, .w] ?_))))));refine su (qd rfl qc5 rfl) rfl (su (qf rfl ty9 rfl) rfl (su (qd rfl qi0 rfl) rfl (su (qf rfl ty3 rfl) rfl (su (qd rfl qi1 rfl) rfl (su (qf rfl ty9 rfl) rfl (su (je rfl z152 rfl qwx (zr rfl (zr rfl (zr rfl kw))) rfl) rfl ?_))))));refine jf rfl rfl (za (tv := .g (G.agg [G.str a0.Name, G.int a0.Moment, G.str a0.Move])) rfl vp rfl rfl rfl rfl rfl) (qc (qo ?_));subst hR;exact zb rfl (kx rfl rfl vp rfl rfl)
def s175 (a0 : S151) (a1 : S151) : Int :=
 (s176 [(s167 a0.Moment a1.Moment), (s133 a0.Name a1.Name), (s133 a0.Kind a1.Kind)])
theorem c175 {g : List (Nat × List Value)} (a0 : S151) (a1 : S151)    : Con (EG g) 175 [G.agg [G.str a0.Name, G.int a0.Moment, G.str a0.Kind], G.agg [G.str a1.Name, G.int a1.Moment, G.str a1.Kind]] (G.int (s175 a0 a1)) := by
 generalize hR : s175 a0 a1 = R;unfold s175 at hR;refine qn Tryz.func175 rfl rfl fun w0 M0 => ?_;refine qb (qa [.p, .p, .p] (su (zl rfl rfl) rfl (su (zl rfl rfl) rfl (sa rfl rfl (qc (qb ?_))))));refine zu [.p, .p, .p, .p, .p, .p, .p, .p, .p, .p, .p, .p, .p, .p, .p, .p, .p, .p] (by kernel_rfl) (su (qd rfl xy rfl) rfl (su (qf rfl ty3 rfl) rfl (su (qd rfl xy rfl) rfl (su (qf rfl ty3 rfl) rfl (su (qg rfl K167 rfl (c167 a0.Moment a1.Moment) (qe rfl (qe rfl qm))) rfl (su (qd rfl qde rfl) rfl ?_))))));refine su (qf rfl ty9 rfl) rfl (su (qd rfl qde rfl) rfl (su (qf rfl ty9 rfl) rfl (su (qg rfl K133 rfl (c133 a0.Name a1.Name) (qe rfl (qe rfl qm))) rfl (su (qd rfl qjh rfl) rfl (su (qf rfl ty9 rfl) rfl (su (qd rfl qjh rfl) rfl ?_))))));refine su (qf rfl ty9 rfl) rfl (su (qg rfl K133 rfl (c133 a0.Kind a1.Kind) (qe rfl (qe rfl qm))) rfl (su (qr rfl Tryz.underlying82 ty3 z3 rfl (qy rfl (qy rfl (qy rfl jc))) rfl (by simp []) (by decide)) rfl (su (qg rfl K176 rfl (c176 [(s167 a0.Moment a1.Moment), (s133 a0.Name a1.Name), (s133 a0.Kind a1.Kind)]) (qe rfl qm)) rfl (sa rfl rfl (qc (qo ?_))))));subst hR;exact zb rfl (rv_g rfl)
def s208 (a0 : S104) (a1 : Int) : Bool :=
 (decide (a0.fFrom ≤ a1)) && (decide (a1 ≤ a0.fTo))
theorem c208 {g : List (Nat × List Value)} (a0 : S104) (a1 : Int)    : Con (EG g) 208 [G.agg [G.str a0.Kind, G.str a0.Name, G.int a0.Moment, G.str a0.Move, G.int a0.fFrom, G.int a0.fTo, G.str a0.Cause, G.int a0.Told], G.int a1] (G.bool (s208 a0 a1)) := by
 generalize hR : s208 a0 a1 = R;unfold s208 at hR;refine qn Tryz.func208 rfl rfl fun w0 M0 => ?_;refine qb (qa [.p, .p] (su (zl rfl rfl) rfl (sa rfl rfl (qc (qb (qa [.p, .p, .p, .p, .p, .p, .p, .p, .p, .p, .p] ?_))))));refine su (qd rfl qfh rfl) rfl (su (qf rfl ty3 rfl) rfl (sm rfl rfl (su (j8 rfl rfl rfl) rfl (sm rfl rfl (sg rfl rfl (fun h => qh rfl rfl) rfl (sg rfl rfl (fun h => qd rfl qfi rfl) rfl ?_))))));refine sg rfl rfl (fun h => qf rfl ty3 (gd h rfl)) rfl (sg rfl rfl (fun h => j8 rfl (gd h rfl) (gd h rfl)) rfl (su (zf rfl rfl rfl rfl) rfl (sa rfl rfl (qc (qo ?_)))));subst hR;exact zb rfl (rv_g rfl)
def s207 (a0 : S104) (a1 : S151) (a2 : Int) (a3 : S23) : Bool :=
 (((decide (a0.Kind = (⟨#[98, 97, 99, 107]⟩))) && (decide (a0.Name = a1.Name))) && (s208 a0 a2)) && (decide (IntKind.i64.wrap (a0.Told + a3.Notice) ≤ a2))
theorem c207 {g : List (Nat × List Value)} (a0 : S104) (a1 : S151) (a2 : Int) (a3 : S23)    : Con (EG g) 207 [G.agg [G.str a0.Kind, G.str a0.Name, G.int a0.Moment, G.str a0.Move, G.int a0.fFrom, G.int a0.fTo, G.str a0.Cause, G.int a0.Told], G.ref [G.str a1.Name, G.int a1.Moment, G.str a1.Kind], G.ref [G.int a2], G.ref [G.int a3.Before, G.int a3.After, G.int a3.Notice, G.int a3.Share, G.sl 1 (List.map cStr a3.Causes), G.int a3.Off, G.int a3.Run]] (G.bool (s207 a0 a1 a2 a3)) := by
 generalize hR : s207 a0 a1 a2 a3 = R;unfold s207 at hR;refine qn Tryz.func207 rfl rfl fun w0 M0 => ?_;refine qb (qa [.p, .p] (su (zl rfl rfl) rfl (sa rfl rfl (qc (qb (qa [.p, .p, .p, .p, .p, .p, .p, .p, .p, .p, .p, .p, .p, .p, .p, .p, .p, .p, .p, .p, .p, .p, .p, .p, .p] ?_))))));refine su (qd rfl qb9 rfl) rfl (su (qf rfl ty9 rfl) rfl (su (jr rfl rfl rfl) rfl (sm rfl rfl (sg rfl rfl (fun h => qd rfl qc5 rfl) rfl (sg rfl rfl (fun h => qf rfl ty9 (gd h rfl)) rfl (sg rfl rfl (fun h => qd rfl qde rfl) rfl ?_))))));refine sg rfl rfl (fun h => qf rfl ty9 (gd h rfl)) rfl (sg rfl rfl (fun h => jr rfl (gd h rfl) (gd h rfl)) rfl (su (zf rfl rfl rfl rfl) rfl (sm rfl rfl (sg rfl rfl (fun h => qt rfl wx rfl rfl rfl) rfl (sg rfl rfl (fun h => qf rfl ty3 rfl) rfl (sg rfl rfl (fun h => qg rfl K208 rfl (c208 a0 a2) (qe (gd h rfl) (qe (gd h rfl) qm))) rfl ?_))))));refine su (zf rfl rfl rfl rfl) rfl (sm rfl rfl (sg rfl rfl (fun h => qd rfl qi3 rfl) rfl (sg rfl rfl (fun h => qf rfl ty3 (gd h rfl)) rfl (sg rfl rfl (fun h => qd rfl qrn rfl) rfl (sg rfl rfl (fun h => qf rfl ty3 (gd h rfl)) rfl (sg rfl rfl (fun h => z6 rfl (gd h rfl) (gd h rfl)) rfl ?_))))));refine sg rfl rfl (fun h => qf rfl ty3 rfl) rfl (sg rfl rfl (fun h => j8 rfl (gd h rfl) (gd h rfl)) rfl (su (zf rfl rfl rfl rfl) rfl (sa rfl rfl (qc (qo ?_)))));subst hR;exact zb rfl (rv_g rfl)
def s209 (a0 : S104) (a1 : Int) (a2 : S151) (a3 : S23) : Bool :=
 (s208 a0 a1) && ((decide (a0.Kind = (⟨#[119, 101, 97, 116, 104, 101, 114]⟩))) || (((decide (a0.Kind = (⟨#[99, 97, 110, 99, 101, 108]⟩))) && (decide (a0.Name = a2.Name))) && (s88 a3.Causes a0.Cause)))
theorem c209 {g : List (Nat × List Value)} (a0 : S104) (a1 : Int) (a2 : S151) (a3 : S23)    : Con (EG g) 209 [G.agg [G.str a0.Kind, G.str a0.Name, G.int a0.Moment, G.str a0.Move, G.int a0.fFrom, G.int a0.fTo, G.str a0.Cause, G.int a0.Told], G.ref [G.int a1], G.ref [G.str a2.Name, G.int a2.Moment, G.str a2.Kind], G.ref [G.int a3.Before, G.int a3.After, G.int a3.Notice, G.int a3.Share, G.sl 1 (List.map cStr a3.Causes), G.int a3.Off, G.int a3.Run]] (G.bool (s209 a0 a1 a2 a3)) := by
 generalize hR : s209 a0 a1 a2 a3 = R;unfold s209 at hR;refine qn Tryz.func209 rfl rfl fun w0 M0 => ?_;refine qb (qa [.p, .p] (su (zl rfl rfl) rfl (sa rfl rfl (qc (qb (qa [.p, .p, .p, .p, .p, .p, .p, .p, .p, .p, .p, .p, .p, .p, .p, .p, .p, .p, .p, .p, .p, .p, .p, .p, .p, .p, .p, .p] ?_))))));refine su (qt rfl wx rfl rfl rfl) rfl (su (qf rfl ty3 rfl) rfl (su (qg rfl K208 rfl (c208 a0 a1) (qe rfl (qe rfl qm))) rfl (sm rfl rfl (sg rfl rfl (fun h => qd rfl qb9 rfl) rfl (sg rfl rfl (fun h => qf rfl ty9 (gd h rfl)) rfl (sg rfl rfl (fun h => jr rfl (gd h rfl) rfl) rfl ?_))))));refine sg rfl rfl (fun h => qh rfl (gd h rfl)) rfl (st_g rfl rfl rfl (zn _ _ _) (fun h => qd rfl qb9 rfl) rfl (st_g rfl rfl rfl (zn _ _ _) (fun h => qf rfl ty9 (gd h rfl)) rfl (st_g rfl rfl rfl (zn _ _ _) (fun h => jr rfl (gd h rfl) rfl) rfl (st_g rfl rfl rfl (zn _ _ _) (fun h => qh rfl (gd h rfl)) rfl (st_g rfl rfl rfl (zn _ _ _) (fun h => qd rfl qc5 rfl) rfl (st_g rfl rfl rfl (zn _ _ _) (fun h => qf rfl ty9 (gd h rfl)) rfl ?_))))));refine st_g rfl rfl rfl (zn _ _ _) (fun h => qd rfl qde rfl) rfl (st_g rfl rfl rfl (zn _ _ _) (fun h => qf rfl ty9 (gd h rfl)) rfl (st_g rfl rfl rfl (zn _ _ _) (fun h => jr rfl (gd h rfl) (gd h rfl)) rfl (st_g rfl rfl rfl (zn _ _ _) (fun h => zf rfl (gd h rfl) rfl (gd2 h rfl)) rfl (st_g rfl rfl rfl (zn _ _ _) (fun h => qh rfl (gd h rfl)) rfl (st_g rfl rfl rfl (zn _ _ _) (fun h => qd rfl qkd rfl) rfl (st_g rfl rfl rfl (zn _ _ _) (fun h => qf rfl ty22 (gd h rfl)) rfl ?_))))));refine st_g rfl rfl rfl (zn _ _ _) (fun h => qd rfl qi2 rfl) rfl (st_g rfl rfl rfl (zn _ _ _) (fun h => qf rfl ty9 (gd h rfl)) rfl (st_g rfl rfl rfl (zn _ _ _) (fun h => qg rfl K88 rfl (c88 a3.Causes a0.Cause) (qe (gd h rfl) (qe (gd h rfl) qm))) rfl (st_g rfl rfl rfl (zn _ _ _) (fun h => zf rfl (gd h rfl) rfl (gd2 h rfl)) rfl (sg rfl rfl (fun h => jj rfl (gd h rfl) rfl (gd2 h rfl)) rfl (su (zf rfl rfl rfl rfl) rfl (sa rfl rfl ?_))))));refine qc (qo ?_);subst hR;exact zb rfl (rv_g rfl)
end Go.Sim
set_option maxRecDepth 10000
namespace Go.Sim
open Go.Proofs
def s170_l1 (a1 : S104 → S151) : List S104 → Nat → (List S151) → List S151
 | [], k3, x1 => x1
 | y4 :: t5, k3, x1 => s170_l1 a1 t5 (k3 + 1) (x1 ++ [(a1 y4)])
def s170 (a0 : List S104) (a1 : S104 → S151) : List S151 :=
 s170_l1 a1 a0 0 []
theorem n170 {g : List (Nat × List Value)} (a0 : List S104) (a1 : S104 → S151) {ca1 : G} {ia1 : FuncId} {ka1 : List G} (ha1 : FnIs ca1 ia1 ka1) (Ka1 : Known Tryz.prog ia1) (Ha1 : ∀ (x0 : S104), Con (EG g) ia1 ([G.agg [G.str x0.Kind, G.str x0.Name, G.int x0.Moment, G.str x0.Move, G.int x0.fFrom, G.int x0.fTo, G.str x0.Cause, G.int x0.Told]] ++ ka1) (G.agg [G.str ((a1 x0).Name), G.int ((a1 x0).Moment), G.str ((a1 x0).Kind)])) (hb0 : a0.length ≤ 12)  : ConN (EG g) 170 [G.sl 8 (List.map S104.c a0), ca1] 152 3 (List.map S151.c (s170 a0 a1)) := by
 generalize hR : s170 a0 a1 = R;unfold s170 at hR;refine kl Tryz.func170 rfl rfl fun w0 M0 => ?_;refine zd (f := S104.c) (l := a0) 0 rfl fun hla0 => ?_;refine qb (qa [.w] (sw (zt 4 152 3 rfl rfl rfl) rfl (qc (qb (qa [.w] (sw (zt 5 152 3 rfl rfl rfl) rfl ?_))))));refine qc (qb (qb (qa [.p, .p, .p] (sm rfl rfl (su (qv (f := S104.c) (l := a0) rfl Tryz.underlying26 rfl) rfl (sm rfl rfl ?_))))));refine qc (qi (qq (γ := Nat × (List S104) × (List S151)) (fun g => ([(1, .g (ca1)), (5, .osl 5 3 0 (List.length g.2.2)), (8, .g (G.sl 8 (List.map S104.c a0))), (9, .g (G.int (List.length a0 : Int))), (10, .g (G.int ((g.1 : Nat) : Int)))], [(5, .arr 152 3 (List.map S151.c g.2.2))])) (fun g => g.2.2.length ≤ g.1 ∧ a0.drop g.1 = g.2.1 ∧ s170_l1 a1 g.2.1 g.1 g.2.2 = R) (fun g => List.length g.2.1) ⟨rfl, (0, a0, []), ⟨rfl, rfl, rfl, rfl, rfl, trivial⟩, ⟨rfl, trivial⟩, rfl, ⟨iH, rfl, hR⟩, trivial⟩ ?_))
 ·rintro ⟨k3, t5, x1⟩ ⟨iv1_0, hd, hR⟩;replace hd : a0.drop k3 = t5 := hd;replace hR : s170_l1 a1 t5 k3 x1 = R := hR;replace iv1_0 : x1.length ≤ k3 := iv1_0;refine qb (qa [.p] (su (qu rfl rfl rfl) rfl (qc (zd (f := S104.c) (l := a0) 8 rfl fun hlz1 => ?_))));refine qb (qj _ rfl (fun h1 => ?_) (fun h1 => ?_))
  ·replace h1 : (decide (((k3 : Nat) : Int) < (List.length a0 : Int))) = true := h1;obtain ⟨y4, t5, rfl, hx1, hd⟩ := ze hd (decT h1);replace h1 := decT h1;rw [s170_l1] at hR;(try dsimp only at hR);refine ql (qb (qi (qb (qa [.p, .p, .w, .w] (su (zh (f := S104.c) (l := a0) (a := y4) rfl Tryz.underlying26 wx rfl rfl (Int.natCast_nonneg _) hx1) rfl (su (qt rfl wx rfl rfl rfl) rfl ?_))))));refine sw (zq 7 rfl z105 rfl rfl) rfl (jf rfl rfl (za (tv := .g (G.agg [G.str y4.Kind, G.str y4.Name, G.int y4.Moment, G.str y4.Move, G.int y4.fFrom, G.int y4.fTo, G.str y4.Cause, G.int y4.Told])) rfl wx rfl rfl rfl rfl rfl) (qc (qa [.p, .p, .r, .p, .p, .k, .p] (su (qp rfl rfl) rfl (sm rfl rfl (sr (zx rfl wx rfl rfl rfl rfl) rfl ?_))))));refine su (vd rfl ha1 Ka1 rfl (Ha1 y4) (qe rfl qm)) rfl (su (qr rfl Tryz.underlying25 vp z152 rfl (qy rfl jc) rfl (by simp [S151.c]) (by decide)) rfl (st_k rfl rfl (jd (f := S151.c) (out := x1) (new := [(a1 y4)]) rfl qwy rfl rfl (km rfl (ky (by decide) (by simp [S151.c]))) (vu rfl) (by simp; omega)) rfl (su (qx rfl rfl) rfl (qc (qa [.p, .p] (su (zc rfl rfl rfl iE) rfl ?_))))));refine sm rfl rfl (qc ?_);exact ⟨rfl, (k3 + 1, t5, x1 ++ [(a1 y4)]), ⟨rfl, rfl, rfl, rfl, rfl, trivial⟩, ⟨rfl, trivial⟩, rfl, ⟨iB, hd, hR⟩, by simp⟩
  ·replace h1 : (decide (((k3 : Nat) : Int) < (List.length a0 : Int))) = false := h1;obtain rfl := zm hd (decF h1);rw [s170_l1] at hR;refine qw ?_;refine qb (qa [.p, .p] (su (qp rfl rfl) rfl (su (qx rfl rfl) rfl (qc (qo ?_)))));subst hR;exact kz rfl rfl rfl ((List.length_map ..).trans rfl)
def s171_j1 (rec1 : Nat → (List S104) → List S104) (k3 : Nat) (x6 : List S104) : List S104 :=
 rec1 (k3 + 1) x6
def s171_l1 (a1 : S104 → Bool) : List S104 → Nat → (List S104) → List S104
 | [], k3, x1 => x1
 | y4 :: t5, k3, x1 => (bif (a1 y4) then s171_j1 (fun k_ z0_ => s171_l1 a1 t5 k_ z0_) k3 (x1 ++ [y4]) else s171_j1 (fun k_ z0_ => s171_l1 a1 t5 k_ z0_) k3 x1)
def s171 (a0 : List S104) (a1 : S104 → Bool) : List S104 :=
 s171_l1 a1 a0 0 []
theorem n171 {g : List (Nat × List Value)} (a0 : List S104) (a1 : S104 → Bool) {ca1 : G} {ia1 : FuncId} {ka1 : List G} (ha1 : FnIs ca1 ia1 ka1) (Ka1 : Known Tryz.prog ia1) (Ha1 : ∀ (x0 : S104), Con (EG g) ia1 ([G.agg [G.str x0.Kind, G.str x0.Name, G.int x0.Moment, G.str x0.Move, G.int x0.fFrom, G.int x0.fTo, G.str x0.Cause, G.int x0.Told]] ++ ka1) (G.bool (a1 x0))) (hb0 : a0.length ≤ 12)  : ConN (EG g) 171 [G.sl 8 (List.map S104.c a0), ca1] 105 8 (List.map S104.c (s171 a0 a1)) := by
 generalize hR : s171 a0 a1 = R;unfold s171 at hR;refine kl Tryz.func171 rfl rfl fun w0 M0 => ?_;refine zd (f := S104.c) (l := a0) 0 rfl fun hla0 => ?_;refine qb (qa [.w] (sw (zt 4 105 8 rfl rfl rfl) rfl (qc (qb (qa [.w] (sw (zt 5 105 8 rfl rfl rfl) rfl ?_))))));refine qc (qb (qb (qa [.p, .p, .p] (sm rfl rfl (su (qv (f := S104.c) (l := a0) rfl Tryz.underlying26 rfl) rfl (sm rfl rfl ?_))))));refine qc (qi (qq (γ := Nat × (List S104) × (List S104)) (fun g => ([(1, .g (ca1)), (5, .osl 5 8 0 (List.length g.2.2)), (8, .g (G.sl 8 (List.map S104.c a0))), (9, .g (G.int (List.length a0 : Int))), (10, .g (G.int ((g.1 : Nat) : Int)))], [(5, .arr 105 8 (List.map S104.c g.2.2))])) (fun g => g.2.2.length ≤ g.1 ∧ a0.drop g.1 = g.2.1 ∧ s171_l1 a1 g.2.1 g.1 g.2.2 = R) (fun g => List.length g.2.1) ⟨rfl, (0, a0, []), ⟨rfl, rfl, rfl, rfl, rfl, trivial⟩, ⟨rfl, trivial⟩, rfl, ⟨iH, rfl, hR⟩, trivial⟩ ?_))
 ·rintro ⟨k3, t5, x1⟩ ⟨iv1_0, hd, hR⟩;replace hd : a0.drop k3 = t5 := hd;replace hR : s171_l1 a1 t5 k3 x1 = R := hR;replace iv1_0 : x1.length ≤ k3 := iv1_0;refine qb (qa [.p] (su (qu rfl rfl rfl) rfl (qc (zd (f := S104.c) (l := a0) 8 rfl fun hlz1 => ?_))));refine qb (qj _ rfl (fun h1 => ?_) (fun h1 => ?_))
  ·replace h1 : (decide (((k3 : Nat) : Int) < (List.length a0 : Int))) = true := h1;obtain ⟨y4, t5, rfl, hx1, hd⟩ := ze hd (decT h1);replace h1 := decT h1;rw [s171_l1] at hR;(try dsimp only at hR);refine ql (ja (γ := (List S104)) (fun g => ([(1, .g (ca1)), (5, .osl 5 8 0 (List.length g)), (8, .g (G.sl 8 (List.map S104.c a0))), (9, .g (G.int (List.length a0 : Int))), (10, .g (G.int ((k3 : Nat) : Int)))], [(5, .arr 105 8 (List.map S104.c g))])) (fun g => g.length ≤ k3 + 1 ∧ s171_j1 (fun k_ z0_ => s171_l1 a1 t5 k_ z0_) k3 g = R) ?_ ?_)
   ·refine qi (qb (qa [.p, .p, .w, .w] (su (zh (f := S104.c) (l := a0) (a := y4) rfl Tryz.underlying26 wx rfl rfl (Int.natCast_nonneg _) hx1) rfl (su (qt rfl wx rfl rfl rfl) rfl (sw (zq 7 rfl z105 rfl rfl) rfl (jf rfl rfl (za (tv := .g (G.agg [G.str y4.Kind, G.str y4.Name, G.int y4.Moment, G.str y4.Move, G.int y4.fFrom, G.int y4.fTo, G.str y4.Cause, G.int y4.Told])) rfl wx rfl rfl rfl rfl rfl) ?_))))));refine qc (qb (qa [.p, .r, .p] (sm rfl rfl (sr (zx rfl wx rfl rfl rfl rfl) rfl (su (vd rfl ha1 Ka1 rfl (Ha1 y4) (qe rfl qm)) rfl (qc ?_))))));refine qj _ rfl (fun h3 => ?_) (fun h3 => ?_)
    ·replace h3 : ((a1 y4)) = true := h3;replace hR := zj hR h3;(try simp only [bB] at h3);refine qa [.p, .r, .p, .k, .p] (su (qp rfl rfl) rfl (sr (zx rfl wx rfl rfl rfl rfl) rfl (su (qr rfl Tryz.underlying26 wx z105 rfl (qy rfl jc) rfl (by simp [S104.c]) (by decide)) rfl (st_k rfl rfl (jd (f := S104.c) (out := x1) (new := [y4]) rfl qyp rfl rfl (km rfl (ky (by decide) (by simp [S104.c]))) (vu rfl) (by simp; omega)) rfl (su (qx rfl rfl) rfl (qc ?_))))));exact ⟨rfl, x1 ++ [y4], ⟨rfl, rfl, rfl, rfl, rfl, trivial⟩, ⟨rfl, trivial⟩, rfl, ⟨iC, hR⟩, trivial⟩
    ·replace h3 : ((a1 y4)) = false := h3;replace hR := zk hR h3;(try simp only [bB] at h3);refine ql ?_;exact ⟨rfl, x1, ⟨rfl, rfl, rfl, rfl, rfl, trivial⟩, ⟨rfl, trivial⟩, rfl, ⟨iC, hR⟩, trivial⟩
   ·rintro x6 ⟨jv1_0, hR⟩;replace jv1_0 : x6.length ≤ k3 + 1 := jv1_0;replace hR : s171_j1 (fun k_ z0_ => s171_l1 a1 t5 k_ z0_) k3 x6 = R := hR;unfold s171_j1 at hR;refine qa [.p, .p] (su (zc rfl rfl rfl iE) rfl (sm rfl rfl (qc ?_)));exact ⟨rfl, (k3 + 1, t5, x6), ⟨rfl, rfl, rfl, rfl, rfl, trivial⟩, ⟨rfl, trivial⟩, rfl, ⟨iB, hd, hR⟩, by simp⟩
  ·replace h1 : (decide (((k3 : Nat) : Int) < (List.length a0 : Int))) = false := h1;obtain rfl := zm hd (decF h1);rw [s171_l1] at hR;refine qw ?_;refine qb (qa [.p, .p] (su (qp rfl rfl) rfl (su (qx rfl rfl) rfl (qc (qo ?_)))));subst hR;exact kz rfl rfl rfl ((List.length_map ..).trans rfl)
theorem c171 {g : List (Nat × List Value)} (a0 : List S104) (a1 : S104 → Bool) {ca1 : G} {ia1 : FuncId} {ka1 : List G} (ha1 : FnIs ca1 ia1 ka1) (Ka1 : Known Tryz.prog ia1) (Ha1 : ∀ (x0 : S104), Con (EG g) ia1 ([G.agg [G.str x0.Kind, G.str x0.Name, G.int x0.Moment, G.str x0.Move, G.int x0.fFrom, G.int x0.fTo, G.str x0.Cause, G.int x0.Told]] ++ ka1) (G.bool (a1 x0))) (hb0 : a0.length ≤ 12)  : Con (EG g) 171 [G.sl 8 (List.map S104.c a0), ca1] (G.sl 8 (List.map S104.c (s171 a0 a1))) :=
 ConN.con (by decide) (n171 a0 a1 ha1 Ka1 Ha1 hb0)
def s242_l1 (a1 : S104 → Bool) : List S104 → Nat → Int
 | [], k2 => (-1)
 | y3 :: t4, k2 => (bif (a1 y3) then ((k2 : Nat) : Int) else s242_l1 a1 t4 (k2 + 1))
def s242 (a0 : List S104) (a1 : S104 → Bool) : Int :=
 s242_l1 a1 a0 0
theorem c242 {g : List (Nat × List Value)} (a0 : List S104) (a1 : S104 → Bool) {ca1 : G} {ia1 : FuncId} {ka1 : List G} (ha1 : FnIs ca1 ia1 ka1) (Ka1 : Known Tryz.prog ia1) (Ha1 : ∀ (x0 : S104), Con (EG g) ia1 ([G.agg [G.str x0.Kind, G.str x0.Name, G.int x0.Moment, G.str x0.Move, G.int x0.fFrom, G.int x0.fTo, G.str x0.Cause, G.int x0.Told]] ++ ka1) (G.bool (a1 x0)))   : Con (EG g) 242 [G.sl 8 (List.map S104.c a0), ca1] (G.int (s242 a0 a1)) := by
 generalize hR : s242 a0 a1 = R;unfold s242 at hR;refine qn Tryz.func242 rfl rfl fun w0 M0 => ?_;refine zd (f := S104.c) (l := a0) 0 rfl fun hla0 => ?_;refine qb (qa [.p] (sa rfl rfl (qc (qb (qb (qa [.p, .p, .p] ?_))))));refine sm rfl rfl (su (qv (f := S104.c) (l := a0) rfl Tryz.underlying26 rfl) rfl (sm rfl rfl (qc (qi (qq (γ := Nat × (List S104)) (fun g => ([(0, .g (G.sl 8 (List.map S104.c a0))), (1, .g (ca1)), (7, .g (G.int (List.length a0 : Int))), (8, .g (G.int ((g.1 : Nat) : Int)))], [])) (fun g => a0.drop g.1 = g.2 ∧ s242_l1 a1 g.2 g.1 = R) (fun g => List.length g.2) ⟨rfl, (0, a0), ⟨rfl, rfl, rfl, rfl, trivial⟩, trivial, rfl, ⟨rfl, hR⟩, trivial⟩ ?_)))))
 ·rintro ⟨k2, t4⟩ ⟨hd, hR⟩;replace hd : a0.drop k2 = t4 := hd;replace hR : s242_l1 a1 t4 k2 = R := hR;refine qb (qa [.p] (su (qu rfl rfl rfl) rfl (qc (zd (f := S104.c) (l := a0) 0 rfl fun hlz1 => ?_))));refine qb (qj _ rfl (fun h1 => ?_) (fun h1 => ?_))
  ·replace h1 : (decide (((k2 : Nat) : Int) < (List.length a0 : Int))) = true := h1;obtain ⟨y3, t4, rfl, hx1, hd⟩ := ze hd (decT h1);replace h1 := decT h1;rw [s242_l1] at hR;(try dsimp only at hR);refine ql (qb (qi (qb (qa [.p, .p] (sm rfl rfl (sa rfl rfl ?_))))));refine qc (qb (qa [.p, .p, .p, .p, .p, .p] (sm rfl rfl (sm rfl rfl (sm rfl rfl (su (zh (f := S104.c) (l := a0) (a := y3) rfl Tryz.underlying26 wx rfl rfl (Int.natCast_nonneg _) hx1) rfl ?_))))));refine su (qt rfl wx rfl rfl rfl) rfl (su (vd rfl ha1 Ka1 rfl (Ha1 y3) (qe rfl qm)) rfl (qc (qj _ rfl (fun h3 => ?_) (fun h3 => ?_))))
   ·replace hR := zj hR h3;refine qb (qa [.p, .p] (sm rfl rfl (sa rfl rfl (qc (qo ?_)))));subst hR;exact zb rfl (rv_g rfl)
   ·replace h3 : ((a1 y3)) = false := h3;replace hR := zk hR h3;(try simp only [bB] at h3);refine ql (qa [.p, .p] (su (zc rfl rfl rfl iE) rfl (sm rfl rfl (qc ?_))));exact ⟨rfl, (k2 + 1, t4), ⟨rfl, rfl, rfl, rfl, trivial⟩, trivial, rfl, ⟨hd, hR⟩, by simp⟩
  ·replace h1 : (decide (((k2 : Nat) : Int) < (List.length a0 : Int))) = false := h1;obtain rfl := zm hd (decF h1);rw [s242_l1] at hR;refine qw ?_;refine qb (qa [.p] (sa rfl rfl (qc (qo ?_))));subst hR;exact zb rfl (rv_g rfl)
def s206 (a0 : List S104) (a1 : S104 → Bool) : Bool :=
 decide (0 ≤ (s242 a0 a1))
theorem c206 {g : List (Nat × List Value)} (a0 : List S104) (a1 : S104 → Bool) {ca1 : G} {ia1 : FuncId} {ka1 : List G} (ha1 : FnIs ca1 ia1 ka1) (Ka1 : Known Tryz.prog ia1) (Ha1 : ∀ (x0 : S104), Con (EG g) ia1 ([G.agg [G.str x0.Kind, G.str x0.Name, G.int x0.Moment, G.str x0.Move, G.int x0.fFrom, G.int x0.fTo, G.str x0.Cause, G.int x0.Told]] ++ ka1) (G.bool (a1 x0)))   : Con (EG g) 206 [G.sl 8 (List.map S104.c a0), ca1] (G.bool (s206 a0 a1)) := by
 generalize hR : s206 a0 a1 = R;unfold s206 at hR;refine qn Tryz.func206 rfl rfl fun w0 M0 => ?_;refine zd (f := S104.c) (l := a0) 0 rfl fun hla0 => ?_;refine qb (qa [.p] (sa rfl rfl (qc (qb (qa [.p, .p, .p, .p, .p] (sm rfl rfl ?_))))));refine sm rfl rfl (su (qg rfl K242 rfl (c242 a0 a1 ha1 Ka1 Ha1) (qe rfl (qe rfl qm))) rfl (su (ko rfl rfl rfl) rfl (sa rfl rfl (qc (qo ?_)))));subst hR;exact zb rfl (rv_g rfl)
def s177 (a0 : S23) (a1 : S151) (a2 : List S104) : Bool :=
 (s206 a2 (fun x0 => s207 x0 a1 (IntKind.i64.wrap (Int.tdiv a1.Moment 1440)) a0))
theorem c177 {g : List (Nat × List Value)} (a0 : S23) (a1 : S151) (a2 : List S104)    : Con (EG g) 177 [G.agg [G.int a0.Before, G.int a0.After, G.int a0.Notice, G.int a0.Share, G.sl 1 (List.map cStr a0.Causes), G.int a0.Off, G.int a0.Run], G.agg [G.str a1.Name, G.int a1.Moment, G.str a1.Kind], G.sl 8 (List.map S104.c a2)] (G.bool (s177 a0 a1 a2)) := by
 generalize hR : s177 a0 a1 a2 = R;unfold s177 at hR;refine qn Tryz.func177 rfl rfl fun w0 M0 => ?_;refine zd (f := S104.c) (l := a2) 2 rfl fun hla2 => ?_;refine qb (qa [.p, .p, .p] (su (zl rfl rfl) rfl (su (zl rfl rfl) rfl (sa rfl rfl (qc (qb ?_))))));refine qa [.p, .p, .p, .w, .w] (su (qd rfl xy rfl) rfl (su (qf rfl ty3 rfl) rfl (su (wi rfl rfl rfl (by decide)) rfl (sw (zq 7 rfl z3 rfl rfl) rfl (jf rfl rfl (za (tv := .g (G.int (IntKind.i64.wrap (Int.tdiv a1.Moment 1440)))) rfl ty3 rfl rfl rfl rfl rfl) (qc ?_))))));refine qb (w3 (l := [(2, .g (G.sl 8 (List.map S104.c a2))), (3, .g (G.ref [G.int a0.Before, G.int a0.After, G.int a0.Notice, G.int a0.Share, G.sl 1 (List.map cStr a0.Causes), G.int a0.Off, G.int a0.Run])), (4, .g (G.ref [G.str a1.Name, G.int a1.Moment, G.str a1.Kind])), (7, .g (G.ref [G.int (IntKind.i64.wrap (Int.tdiv a1.Moment 1440))]))]) (m := []) 7 rfl ⟨.inl ⟨rfl, rfl⟩, .inl ⟨rfl, rfl⟩, .inl ⟨rfl, rfl⟩, .inr (qfm rfl), trivial⟩ trivial rfl rfl ?_);refine qa [.p, .p, .p, .p] (sm rfl rfl (su (wo rfl rfl rfl) rfl (su (qg rfl K206 rfl (c206 a2 (fun x0 => s207 x0 a1 (IntKind.i64.wrap (Int.tdiv a1.Moment 1440)) a0) qc2 K207 (fun x0 => c207 x0 a1 (IntKind.i64.wrap (Int.tdiv a1.Moment 1440)) a0)) (qe rfl (qe rfl qm))) rfl (sa rfl rfl (qc (qo ?_))))));subst hR;exact zb rfl (rv_g rfl)
def s178 (a0 : S23) (a1 : S151) (a2 : List S104) : Bool :=
 (s206 a2 (fun x0 => s209 x0 (IntKind.i64.wrap (Int.tdiv a1.Moment 1440)) a1 a0))
theorem c178 {g : List (Nat × List Value)} (a0 : S23) (a1 : S151) (a2 : List S104)    : Con (EG g) 178 [G.agg [G.int a0.Before, G.int a0.After, G.int a0.Notice, G.int a0.Share, G.sl 1 (List.map cStr a0.Causes), G.int a0.Off, G.int a0.Run], G.agg [G.str a1.Name, G.int a1.Moment, G.str a1.Kind], G.sl 8 (List.map S104.c a2)] (G.bool (s178 a0 a1 a2)) := by
 generalize hR : s178 a0 a1 a2 = R;unfold s178 at hR;refine qn Tryz.func178 rfl rfl fun w0 M0 => ?_;refine zd (f := S104.c) (l := a2) 2 rfl fun hla2 => ?_;refine qb (qa [.p, .p, .p] (su (zl rfl rfl) rfl (su (zl rfl rfl) rfl (sa rfl rfl (qc (qb ?_))))));refine qa [.p, .p, .p, .w, .w] (su (qd rfl xy rfl) rfl (su (qf rfl ty3 rfl) rfl (su (wi rfl rfl rfl (by decide)) rfl (sw (zq 7 rfl z3 rfl rfl) rfl (jf rfl rfl (za (tv := .g (G.int (IntKind.i64.wrap (Int.tdiv a1.Moment 1440)))) rfl ty3 rfl rfl rfl rfl rfl) (qc ?_))))));refine qb (w3 (l := [(2, .g (G.sl 8 (List.map S104.c a2))), (3, .g (G.ref [G.int a0.Before, G.int a0.After, G.int a0.Notice, G.int a0.Share, G.sl 1 (List.map cStr a0.Causes), G.int a0.Off, G.int a0.Run])), (4, .g (G.ref [G.str a1.Name, G.int a1.Moment, G.str a1.Kind])), (7, .g (G.ref [G.int (IntKind.i64.wrap (Int.tdiv a1.Moment 1440))]))]) (m := []) 7 rfl ⟨.inl ⟨rfl, rfl⟩, .inl ⟨rfl, rfl⟩, .inl ⟨rfl, rfl⟩, .inr (qfm rfl), trivial⟩ trivial rfl rfl ?_);refine qa [.p, .p, .p, .p] (sm rfl rfl (su (wo rfl rfl rfl) rfl (su (qg rfl K206 rfl (c206 a2 (fun x0 => s209 x0 (IntKind.i64.wrap (Int.tdiv a1.Moment 1440)) a1 a0) qc2 K209 (fun x0 => c209 x0 (IntKind.i64.wrap (Int.tdiv a1.Moment 1440)) a1 a0)) (qe rfl (qe rfl qm))) rfl (sa rfl rfl (qc (qo ?_))))));subst hR;exact zb rfl (rv_g rfl)
def s126_j1 (a0 : S55) (a1 : Int) (x1 : Int) : S55 :=
 (bif (decide (a1 = 1)) || (decide (a1 = 2)) then (S55.mk (IntKind.i64.wrap (a0.Flown + 1)) x1) else (S55.mk a0.Flown x1))
def s126 (a0 : S55) (a1 : Int) : S55 :=
 (bif decide (a1 ≠ 0) then s126_j1 a0 a1 (IntKind.i64.wrap (a0.Due + 1)) else s126_j1 a0 a1 a0.Due)
theorem c126 {g : List (Nat × List Value)} (a0 : S55) (a1 : Int)    : ConB (EG g) 126 [.ptr 0 0, .g (G.int a1)] [(0, .box [.g (G.int a0.Flown), .g (G.int a0.Due)])] (G.tup []) [(0, .box [.g (G.int ((s126 a0 a1).Flown)), .g (G.int ((s126 a0 a1).Due))])] := by
 generalize hR : s126 a0 a1 = R;unfold s126 at hR;refine kr Tryz.func126 rfl rfl rfl fun w0 M0 x => ?_;refine ja (γ := Int) (fun g => ([(0, .ptr 0 0), (1, .g (G.int a1))], [(0, .box [.g (G.int a0.Flown), .g (G.int g)])])) (fun g => s126_j1 a0 a1 g = R) ?_ ?_
 ·refine qb (qa [.p, .p] (sm rfl rfl (su (jg rfl rfl rfl) rfl (qc (qj _ rfl (fun h2 => ?_) (fun h2 => ?_))))))
  ·replace hR := zj hR h2;refine qa [.p, .p, .p, .r, .p, .p, .p, .w] (su (qgw rfl rfl) rfl (su (qcu rfl rfl) rfl (su (zg rfl qkt rfl) rfl (sr (z4 rfl ty3 rfl rfl rfl) rfl (su (z6 rfl rfl rfl) rfl (su (qcu rfl rfl) rfl ?_))))));refine su (zg rfl qkt rfl) rfl (jf rfl rfl (za (tv := .g (G.int (IntKind.i64.wrap (a0.Due + 1)))) rfl ty3 rfl rfl rfl rfl rfl) (qc ?_));exact ⟨rfl, IntKind.i64.wrap (a0.Due + 1), ⟨rfl, rfl, trivial⟩, ⟨rfl, trivial⟩, rfl, hR, trivial⟩
  ·replace hR := zk hR h2;refine ql ?_;exact ⟨rfl, a0.Due, ⟨rfl, rfl, trivial⟩, ⟨rfl, trivial⟩, rfl, hR, trivial⟩
 ·rintro x1 hR;replace hR : s126_j1 a0 a1 x1 = R := hR;unfold s126_j1 at hR;refine qb (qa [.p, .p, .p, .p, .p, .p] (sm rfl rfl (su (jh rfl rfl rfl) rfl (sm rfl rfl (sg rfl rfl (fun h => qh rfl rfl) rfl (sg rfl rfl (fun h => jh rfl (gd h rfl) rfl) rfl ?_))))));refine su (jj rfl rfl rfl rfl) rfl (qc (qj _ rfl (fun h1 => ?_) (fun h1 => ?_)))
  ·replace hR := zj hR h1;refine qa [.p, .p, .p, .r, .p, .p, .p, .w] (su (qgw rfl rfl) rfl (su (qcu rfl rfl) rfl (su (zg rfl qnz rfl) rfl (sr (z4 rfl ty3 rfl rfl rfl) rfl (su (z6 rfl rfl rfl) rfl (su (qcu rfl rfl) rfl ?_))))));refine su (zg rfl qnz rfl) rfl (jf rfl rfl (za (tv := .g (G.int (IntKind.i64.wrap (a0.Flown + 1)))) rfl ty3 rfl rfl rfl rfl rfl) (qc ?_));subst hR;show ResOk _ _ _ _ ∧ MemL _ _;exact ⟨res0 rfl, ⟨rfl, trivial⟩⟩
  ·replace hR := zk hR h1;refine ql ?_;subst hR;show ResOk _ _ _ _ ∧ MemL _ _;exact ⟨res0 rfl, ⟨rfl, trivial⟩⟩
section
variable {α : Type}
def insB (lt : α → α → Bool) (x : α) : List α → List α
 | [] => [x]
 | y :: r => bif lt x y then y :: insB lt x r else x :: y :: r
def insS (lt : α → α → Bool) : List α → List α → List α
 | P, [] => P.reverse
 | P, x :: l => insS lt (insB lt x P) l
def isort (lt : α → α → Bool) (l : List α) : List α := insS lt [] l
theorem xz (lt : α → α → Bool) (x : α) : ∀ P, (insB lt x P).Perm (x :: P)
 | [] => List.Perm.refl _
 | y :: r => by
  rw [insB]
  cases lt x y with
  | true => exact ((xz lt x r).cons y).trans (List.Perm.swap x y r)
  | false => exact List.Perm.refl _
theorem qku (lt : α → α → Bool) (x : α) (P : List α) : (insB lt x P).length = P.length + 1 := (xz lt x P).length_eq
theorem qhy (lt : α → α → Bool) : ∀ (l P : List α), (insS lt P l).Perm (P ++ l)
 | [], P => by rw [insS, List.append_nil]; exact List.reverse_perm P
 | x :: l, P => by
  rw [insS];refine (qhy lt l _).trans ?_;refine ((xz lt x P).append_right l).trans ?_;exact List.perm_middle.symm
theorem qek (lt : α → α → Bool) (l : List α) : (isort lt l).Perm l := qhy lt l []
theorem qdf {lt : α → α → Bool} {Rel : α → α → Prop} (tr : ∀ a b c, Rel a b → Rel b c → Rel a c) {x : α} : ∀ {P : List α}, P.Pairwise (fun a b => Rel b a) → (∀ y ∈ P, (lt x y = true → Rel x y) ∧ (lt x y = false → Rel y x)) → (insB lt x P).Pairwise (fun a b => Rel b a)
 | [], _, _ => by rw [insB]; exact List.pairwise_singleton _ _
 | y :: r, hP, hx => by
  rw [insB];have h1 := List.pairwise_cons.1 hP
  cases hl : lt x y with
  | true =>
   refine List.pairwise_cons.2 ⟨fun z hz => ?_, qdf tr h1.2 fun y hy => hx y (List.mem_cons_of_mem _ hy)⟩
   rcases List.mem_cons.1 ((xz lt x r).mem_iff.1 hz) with rfl | hz
   ·exact (hx y List.mem_cons_self).1 hl
   ·exact h1.1 z hz
  | false =>
   refine List.pairwise_cons.2 ⟨fun z hz => ?_, hP⟩;have h2 := (hx y List.mem_cons_self).2 hl
   rcases List.mem_cons.1 hz with rfl | hz
   ·exact h2
   ·exact tr z y x (h1.1 z hz) h2
theorem qdg {lt : α → α → Bool} {Rel : α → α → Prop} (tr : ∀ a b c, Rel a b → Rel b c → Rel a c) : ∀ {l P : List α}, P.Pairwise (fun a b => Rel b a) → (∀ y ∈ P, ∀ x ∈ l, (lt x y = true → Rel x y) ∧ (lt x y = false → Rel y x)) →
  l.Pairwise (fun y x => (lt x y = true → Rel x y) ∧ (lt x y = false → Rel y x)) → (insS lt P l).Pairwise Rel
 | [], P, hP, _, _ => by rw [insS]; exact List.pairwise_reverse.2 hP
 | x :: l, P, hP, hx, hl => by
  rw [insS];have h1 := List.pairwise_cons.1 hl;refine qdg tr (qdf tr hP fun y hy => hx y hy x List.mem_cons_self) (fun y hy z hz => ?_) h1.2
  rcases List.mem_cons.1 ((xz lt x P).mem_iff.1 hy) with rfl | hy
  ·exact h1.1 z hz
  ·exact hx y hy z (List.mem_cons_of_mem _ hz)
theorem qcj {lt : α → α → Bool} {Rel : α → α → Prop} (tr : ∀ a b c, Rel a b → Rel b c → Rel a c) {l : List α} (hl : l.Pairwise (fun y x => (lt x y = true → Rel x y) ∧ (lt x y = false → Rel y x))) : (isort lt l).Pairwise Rel :=
 qdg tr List.Pairwise.nil (fun y hy => by cases hy) hl
theorem qaa {Rel : α → α → Prop} : ∀ {a b : List α}, a.Perm b → a.Pairwise Rel → b.Pairwise Rel → (∀ x ∈ a, ∀ y ∈ a, Rel x y → Rel y x → x = y) → a = b
 | [], b, hp, _, _, _ => by rw [List.nil_perm.1 hp]
 | x :: t, [], hp, _, _, _ => by cases (List.perm_nil.1 hp)
 | x :: t, y :: s, hp, ha, hb, an => by
  have h1 := List.pairwise_cons.1 ha;have h2 := List.pairwise_cons.1 hb
  have hxy : x = y := by
   have hx : x ∈ y :: s := hp.mem_iff.1 List.mem_cons_self;have hy : y ∈ x :: t := hp.mem_iff.2 List.mem_cons_self
   rcases List.mem_cons.1 hx with e | hx
   ·exact e
   ·rcases List.mem_cons.1 hy with e | hy'
    ·exact e.symm
    ·exact an x List.mem_cons_self y hy (h1.1 y hy') (h2.1 x hx)
  subst hxy;rw [qaa ((List.perm_cons x).1 hp) h1.2 h2.2 fun a ha b hb => an a (List.mem_cons_of_mem _ ha) b (List.mem_cons_of_mem _ hb)]
theorem qdb {P B : List α} {x : α} : ixO (P ++ x :: B) (P.length : Int) = some x := by
 unfold ixO;rw [decide_eq_true (by omega)]
 simp
theorem wl {P B : List α} {x : α} {n : Int} (h : n = (P.length : Int)) : ixO (P ++ x :: B) n = some x := by rw [h]; exact qdb
theorem qab {P B : List α} {x y : α} {n : Nat} (h : n = P.length) : List.set (P ++ x :: B) n y = P ++ y :: B := by
 subst h;rw [List.set_append_right _ _ (Nat.le_refl _), Nat.sub_self, List.set_cons_zero]
end
theorem qeo (rec1 : Int → List Int → Option (List Int)) (cmp : Int → Int → Option Int) (lt : Int → Int → Bool) (x1 : Int) (x : Int) : ∀ (P B : List Int) (k : Nat), P.length < k → (∀ y ∈ P, ∃ c, cmp x y = some c ∧ decide (c < 0) = lt x y) →
  s252_l2 rec1 0 cmp x1 k (P.length : Int) (P.reverse ++ x :: B) = rec1 (x1 + 1) ((insB lt x P).reverse ++ B)
 | [], B, 0, h, _ => by omega
 | [], B, k + 1, h, _ => by
  rw [s252_l2]
  have e : decide ((0 : Int) < (([] : List Int).length : Int)) = false := by simp
  simp only [e, cond_false, bindO, Bool.false_and, insB]
  simp
 | y :: r, B, 0, h, _ => by omega
 | y :: r, B, k + 1, h, hc => by
  have e : decide ((0 : Int) < ((y :: r).length : Int)) = true := by simp <;> omega
  have l1 : (y :: r).reverse ++ x :: B = (r.reverse ++ [y]) ++ x :: B := by simp
  have l2 : (r.reverse ++ [y]) ++ x :: B = r.reverse ++ y :: (x :: B) := by simp
  have i1 : ixO ((r.reverse ++ [y]) ++ x :: B) ((y :: r).length : Int) = some x := wl (by simp)
  have i2 : ixO ((r.reverse ++ [y]) ++ x :: B) (((y :: r).length : Int) - 1) = some y := by rw [l2]; exact wl (by simp)
  obtain ⟨c, c1, c2⟩ := hc y List.mem_cons_self;rw [s252_l2, l1];simp only [e, cond_true, i1, i2, bindO, c1, Bool.true_and, c2]
  cases hl : lt x y with
  | true =>
   have e1 : List.set ((r.reverse ++ [y]) ++ x :: B) (Int.toNat ((y :: r).length : Int)) y = (r.reverse ++ [y]) ++ y :: B := qab (by simp)
   have e2 : List.set ((r.reverse ++ [y]) ++ y :: B) (Int.toNat (((y :: r).length : Int) - 1)) x = r.reverse ++ x :: (y :: B) := by
    rw [show (r.reverse ++ [y]) ++ y :: B = r.reverse ++ y :: (y :: B) by simp];exact qab (by simp)
   have e3 : (((y :: r).length : Int) - 1) = (r.length : Int) := by simp
   have hih := qeo rec1 cmp lt x1 x r (y :: B) k (by simp at h; omega) (fun z hz => hc z (List.mem_cons_of_mem _ hz))
   have i3 : ixO (List.set ((r.reverse ++ [y]) ++ x :: B) (Int.toNat ((y :: r).length : Int)) y) (((y :: r).length : Int) - 1) = some y := by
    rw [e1, show (r.reverse ++ [y]) ++ y :: B = r.reverse ++ y :: (y :: B) by simp];exact wl (by simp)
   rw [cond_true];simp only [i3];rw [e1, e2, e3, hih]
   simp [insB, hl]
  | false =>
   rw [cond_false]
   simp [insB, hl]
theorem qep (cmp : Int → Int → Option Int) (lt : Int → Int → Bool) : ∀ (l P : List Int), (∀ y ∈ P ++ l, ∀ x ∈ l, ∃ c, cmp x y = some c ∧ decide (c < 0) = lt x y) → s252_l1 0 cmp l.length (P.length : Int) (P.reverse ++ l) = some (insS lt P l)
 | [], P, _ => by rw [List.length_nil, s252_l1, insS, List.append_nil]
 | x :: l, P, h => by
  rw [List.length_cons, s252_l1, qeo _ cmp lt _ x P l _ (by omega) (fun y hy => h y (List.mem_append_left _ hy) x List.mem_cons_self), insS]
  have := qep cmp lt l (insB lt x P) (fun y hy z hz => h y (by
   rcases List.mem_append.1 hy with hy | hy
   ·rcases List.mem_cons.1 ((xz lt x P).mem_iff.1 hy) with rfl | hy
    ·simp
    ·simp [hy]
   ·simp [hy]) z (List.mem_cons_of_mem _ hz))
  rw [← this, qku]
  simp
theorem qtt {cmp : Int → Int → Option Int} {lt : Int → Int → Bool} {l : List Int} (h : ∀ y ∈ l, ∀ x ∈ l, ∃ c, cmp x y = some c ∧ decide (c < 0) = lt x y) : s252 l 0 (l.length : Int) cmp = some (isort lt l) := by
 unfold s252 isort
 cases l with
 | nil => rfl
 | cons x l =>
  have e : ((((x :: l).length : Int) - (0 + 1)).toNat) = l.length := by simp
  rw [e, insS];exact qep cmp lt l [x] (fun y hy z hz => h y hy z (List.mem_cons_of_mem _ hz))
theorem qeq (rec1 : Int → List S151 → Option (List S151)) (cmp : S151 → S151 → Option Int) (lt : S151 → S151 → Bool) (x1 : Int) (x : S151) : ∀ (P B : List S151) (k : Nat), P.length < k → (∀ y ∈ P, ∃ c, cmp x y = some c ∧ decide (c < 0) = lt x y) →
  s234_l2 rec1 0 cmp x1 k (P.length : Int) (P.reverse ++ x :: B) = rec1 (x1 + 1) ((insB lt x P).reverse ++ B)
 | [], B, 0, h, _ => by omega
 | [], B, k + 1, h, _ => by
  rw [s234_l2]
  have e : decide ((0 : Int) < (([] : List S151).length : Int)) = false := by simp
  simp only [e, cond_false, bindO, Bool.false_and, insB]
  simp
 | y :: r, B, 0, h, _ => by omega
 | y :: r, B, k + 1, h, hc => by
  have e : decide ((0 : Int) < ((y :: r).length : Int)) = true := by simp <;> omega
  have l1 : (y :: r).reverse ++ x :: B = (r.reverse ++ [y]) ++ x :: B := by simp
  have l2 : (r.reverse ++ [y]) ++ x :: B = r.reverse ++ y :: (x :: B) := by simp
  have i1 : ixO ((r.reverse ++ [y]) ++ x :: B) ((y :: r).length : Int) = some x := wl (by simp)
  have i2 : ixO ((r.reverse ++ [y]) ++ x :: B) (((y :: r).length : Int) - 1) = some y := by rw [l2]; exact wl (by simp)
  obtain ⟨c, c1, c2⟩ := hc y List.mem_cons_self;rw [s234_l2, l1];simp only [e, cond_true, i1, i2, bindO, c1, Bool.true_and, c2]
  cases hl : lt x y with
  | true =>
   have e1 : List.set ((r.reverse ++ [y]) ++ x :: B) (Int.toNat ((y :: r).length : Int)) y = (r.reverse ++ [y]) ++ y :: B := qab (by simp)
   have e2 : List.set ((r.reverse ++ [y]) ++ y :: B) (Int.toNat (((y :: r).length : Int) - 1)) x = r.reverse ++ x :: (y :: B) := by
    rw [show (r.reverse ++ [y]) ++ y :: B = r.reverse ++ y :: (y :: B) by simp];exact qab (by simp)
   have e3 : (((y :: r).length : Int) - 1) = (r.length : Int) := by simp
   have hih := qeq rec1 cmp lt x1 x r (y :: B) k (by simp at h; omega) (fun z hz => hc z (List.mem_cons_of_mem _ hz))
   have i3 : ixO (List.set ((r.reverse ++ [y]) ++ x :: B) (Int.toNat ((y :: r).length : Int)) y) (((y :: r).length : Int) - 1) = some y := by
    rw [e1, show (r.reverse ++ [y]) ++ y :: B = r.reverse ++ y :: (y :: B) by simp];exact wl (by simp)
   rw [cond_true];simp only [i3];rw [e1, e2, e3, hih]
   simp [insB, hl]
  | false =>
   rw [cond_false]
   simp [insB, hl]
theorem qer (cmp : S151 → S151 → Option Int) (lt : S151 → S151 → Bool) : ∀ (l P : List S151), (∀ y ∈ P ++ l, ∀ x ∈ l, ∃ c, cmp x y = some c ∧ decide (c < 0) = lt x y) → s234_l1 0 cmp l.length (P.length : Int) (P.reverse ++ l) = some (insS lt P l)
 | [], P, _ => by rw [List.length_nil, s234_l1, insS, List.append_nil]
 | x :: l, P, h => by
  rw [List.length_cons, s234_l1, qeq _ cmp lt _ x P l _ (by omega) (fun y hy => h y (List.mem_append_left _ hy) x List.mem_cons_self), insS]
  have := qer cmp lt l (insB lt x P) (fun y hy z hz => h y (by
   rcases List.mem_append.1 hy with hy | hy
   ·rcases List.mem_cons.1 ((xz lt x P).mem_iff.1 hy) with rfl | hy
    ·simp
    ·simp [hy]
   ·simp [hy]) z (List.mem_cons_of_mem _ hz))
  rw [← this, qku]
  simp
theorem qtu {cmp : S151 → S151 → Option Int} {lt : S151 → S151 → Bool} {l : List S151} (h : ∀ y ∈ l, ∀ x ∈ l, ∃ c, cmp x y = some c ∧ decide (c < 0) = lt x y) : s234 l 0 (l.length : Int) cmp = some (isort lt l) := by
 unfold s234 isort
 cases l with
 | nil => rfl
 | cons x l =>
  have e : ((((x :: l).length : Int) - (0 + 1)).toNat) = l.length := by simp
  rw [e, insS];exact qer cmp lt l [x] (fun y hy z hz => h y hy z (List.mem_cons_of_mem _ hz))
theorem qnp {cmp : Int → Int → Option Int} {lt : Int → Int → Bool} {l : List Int} (h : ∀ y ∈ l, ∀ x ∈ l, ∃ c, cmp x y = some c ∧ decide (c < 0) = lt x y) : s203 l cmp = some (isort lt l) := by
 unfold s203 s233;rw [s233_l1, qtt h];simp only [bindO];rw [s233_l2]
theorem qtv {cmp : S151 → S151 → Option Int} {lt : S151 → S151 → Bool} {l : List S151} (h : ∀ y ∈ l, ∀ x ∈ l, ∃ c, cmp x y = some c ∧ decide (c < 0) = lt x y) : s174 l cmp = some (isort lt l) := by
 unfold s174 s205;rw [s205_l1, qtu h];simp only [bindO]
end Go.Sim
set_option maxRecDepth 10000
namespace Go.Sim
open Go.Proofs
def s40 (a0 : S45) : Int :=
 (bif (decide ((s109 a0.fFrom) ≠ 0)) || (decide ((s109 a0.fTo) ≠ 0)) then 3 else (bif decide (a0.fTo < a0.fFrom) then 11 else (bif decide (400 < IntKind.i64.wrap (a0.fTo - a0.fFrom)) then 4 else (s90 a0.Days 1 127))))
theorem c40 {g : List (Nat × List Value)} (a0 : S45)    : Con (EG g) 40 [G.agg [G.int a0.fFrom, G.int a0.fTo, G.int a0.Days]] (G.int (s40 a0)) := by
 generalize hR : s40 a0 = R;unfold s40 at hR;refine qn Tryz.func40 rfl rfl fun w0 M0 => ?_;refine qb (qa [.p, .p] (su (zl rfl rfl) rfl (sa rfl rfl (qc (qb (qb ?_))))));refine qa [.p, .p, .p, .p, .p, .p, .p, .p, .p, .p] (su (qd rfl qaq rfl) rfl (su (qf rfl ty3 rfl) rfl (su (qg rfl K109 rfl (c109 a0.fFrom) (qe rfl qm)) rfl (su (jg rfl rfl rfl) rfl (sm rfl rfl (sg rfl rfl (fun h => qd rfl wy rfl) rfl ?_))))));refine sg rfl rfl (fun h => qf rfl ty3 (gd h rfl)) rfl (sg rfl rfl (fun h => qg rfl K109 rfl (c109 a0.fTo) (qe (gd h rfl) qm)) rfl (sg rfl rfl (fun h => jg rfl (gd h rfl) rfl) rfl (su (jj rfl rfl rfl rfl) rfl (qc (qj _ rfl (fun h1 => ?_) (fun h1 => ?_))))))
 ·replace hR := zj hR h1;refine qb (qa [.p] (sa rfl rfl (qc (qo ?_))));subst hR;exact zb rfl (rv_g rfl)
 ·replace h1 : ((decide ((s109 a0.fFrom) ≠ 0)) || (decide ((s109 a0.fTo) ≠ 0))) = false := h1;replace hR := zk hR h1;(try simp only [bB] at h1);refine ql (qb (qb (qa [.p, .p, .p, .p, .p] (su (qd rfl wy rfl) rfl (su (qf rfl ty3 rfl) rfl (su (qd rfl qaq rfl) rfl ?_))))));refine su (qf rfl ty3 rfl) rfl (su (qu rfl rfl rfl) rfl (qc (qj _ rfl (fun h2 => ?_) (fun h2 => ?_))))
  ·replace hR := zj hR h2;refine qb (qa [.p] (sa rfl rfl (qc (qo ?_))));subst hR;exact zb rfl (rv_g rfl)
  ·replace h2 : (decide (a0.fTo < a0.fFrom)) = false := h2;replace hR := zk hR h2;(try simp only [bB] at h2);refine ql (qb (qb (qa [.p, .p, .p, .p, .p, .p] (su (qd rfl wy rfl) rfl (su (qf rfl ty3 rfl) rfl (su (qd rfl qaq rfl) rfl ?_))))));refine su (qf rfl ty3 rfl) rfl (su (jb rfl rfl rfl) rfl (su (z0 rfl rfl rfl) rfl (qc (qj _ rfl (fun h3 => ?_) (fun h3 => ?_)))))
   ·replace hR := zj hR h3;refine qb (qa [.p] (sa rfl rfl (qc (qo ?_))));subst hR;exact zb rfl (rv_g rfl)
   ·replace hR := zk hR h3;refine ql (qb (qa [.p, .p, .p, .p] (su (qd rfl qg7 rfl) rfl (su (qf rfl ty3 rfl) rfl (su (qg rfl K90 rfl (c90 a0.Days 1 127) (qe rfl (qe rfl (qe rfl qm)))) rfl (sa rfl rfl ?_))))));refine qc (qo ?_);subst hR;exact zb rfl (rv_g rfl)
def s180 (a0 : Int) : Int :=
 Int.tmod (IntKind.i64.wrap (a0 + 5)) 7
theorem c180 {g : List (Nat × List Value)} (a0 : Int)    : Con (EG g) 180 [G.int a0] (G.int (s180 a0)) := by
 generalize hR : s180 a0 = R;unfold s180 at hR;refine qn Tryz.func180 rfl rfl fun w0 M0 => ?_;refine qb (qa [.p] (sa rfl rfl (qc (qb (qa [.p, .p, .p, .p] (sm rfl rfl ?_))))));refine su (z6 rfl rfl rfl) rfl (su (xf rfl rfl rfl (by decide)) rfl (sa rfl rfl (qc (qo ?_))));subst hR;exact zb rfl (rv_g rfl)
theorem qtw (x : Int) : s180 x ≤ 7 := by
 unfold s180;generalize IntKind.i64.wrap (x + 5) = y;have := Int.tmod_lt_of_pos y (show (0 : Int) < 7 by decide)
 omega
end Go.Sim
set_option maxRecDepth 10000
namespace Go.Sim
open Go.Proofs
def s192_l1  : Nat → Int → Int → Bool
 | 0, x1, x2 => decide (Int.tmod x1 2 = 1)
 | k4 + 1, x1, x2 => s192_l1 k4 (IntKind.i64.wrap (Int.tdiv x1 2)) (x2 + 1)
def s192 (a0 : Int) (a1 : Int) : Bool :=
 s192_l1 ((a1 - 0).toNat) a0 0
theorem c192 {g : List (Nat × List Value)} (a0 : Int) (a1 : Int)  (hw : a1 ≤ 7)  : Con (EG g) 192 [G.int a0, G.int a1] (G.bool (s192 a0 a1)) := by
 generalize hR : s192 a0 a1 = R;unfold s192 at hR;refine qn Tryz.func192 rfl rfl fun w0 M0 => ?_;refine qb (qa [.p] (sa rfl rfl (qc (qb (qb (qa [.p] ?_))))));refine sa rfl rfl (qc (qi (qq (γ := Nat × Int × Int) (fun g => ([(0, .g (G.int g.2.1)), (1, .g (G.int a1)), (5, .g (G.int g.2.2))], [])) (fun g => g.1 = (a1 - g.2.2).toNat ∧ 0 ≤ g.2.2 ∧ s192_l1 g.1 g.2.1 g.2.2 = R) (fun g => g.1) ⟨rfl, ((a1 - 0).toNat, a0, 0), ⟨rfl, rfl, rfl, trivial⟩, trivial, rfl, ⟨rfl, iD, hR⟩, trivial⟩ ?_)))
 ·rintro ⟨k4, x1, x2⟩ ⟨hk1, iv1_0, hR⟩;replace hk1 : k4 = (a1 - x2).toNat := hk1;replace hR : s192_l1 k4 x1 x2 = R := hR;replace iv1_0 : 0 ≤ x2 := iv1_0;refine qb (qb (qa [.p, .p, .p] (sm rfl rfl (sm rfl rfl (su (qu rfl rfl rfl) rfl (qc ?_))))));refine qj _ rfl (fun h1 => ?_) (fun h1 => ?_)
  ·replace h1 : (decide (x2 < a1)) = true := h1;replace h1 := decT h1;obtain ⟨k4, rfl⟩ : ∃ m, k4 = m + 1 := ⟨k4 - 1, by omega⟩;rw [s192_l1] at hR;(try dsimp only at hR);refine ql (qb (qi (qa [.p, .p, .p] (sm rfl rfl (su (wi rfl rfl rfl (by decide)) rfl (sa rfl rfl ?_))))));refine qc (qa [.p, .p, .p] (sm rfl rfl (su (zc rfl rfl rfl iG) rfl (sa rfl rfl (qc ?_)))));exact ⟨rfl, (k4, IntKind.i64.wrap (Int.tdiv x1 2), x2 + 1), ⟨rfl, rfl, rfl, trivial⟩, trivial, rfl, ⟨iB, iB, hR⟩, by simp⟩
  ·replace h1 : (decide (x2 < a1)) = false := h1;replace h1 := decF h1
   obtain rfl : k4 = 0 := by omega
   rw [s192_l1] at hR;refine qw ?_;refine qb (qa [.p, .p, .p, .p] (sm rfl rfl (su (xf rfl rfl rfl (by decide)) rfl (su (jh rfl rfl rfl) rfl (sa rfl rfl (qc ?_))))));refine qo ?_;subst hR;exact zb rfl (rv_g rfl)
def s157 (a0 : S45) (a1 : Int) : Bool :=
 ((decide (a0.fFrom ≤ a1)) && (decide (a1 ≤ a0.fTo))) && (s192 a0.Days (s180 a1))
theorem c157 {g : List (Nat × List Value)} (a0 : S45) (a1 : Int)    : Con (EG g) 157 [G.agg [G.int a0.fFrom, G.int a0.fTo, G.int a0.Days], G.int a1] (G.bool (s157 a0 a1)) := by
 generalize hR : s157 a0 a1 = R;unfold s157 at hR;refine qn Tryz.func157 rfl rfl fun w0 M0 => ?_;refine qb (qa [.p, .p] (su (zl rfl rfl) rfl (sa rfl rfl (qc (qb (zu [.p, .p, .p, .p, .p, .p, .p, .p, .p, .p, .p, .p, .p, .p, .p, .p, .p, .p] (by kernel_rfl) ?_))))));refine sm rfl rfl (su (qd rfl qaq rfl) rfl (su (qf rfl ty3 rfl) rfl (su (ko rfl rfl rfl) rfl (sm rfl rfl (sg rfl rfl (fun h => qh rfl rfl) rfl (sg rfl rfl (fun h => qd rfl wy rfl) rfl ?_))))));refine sg rfl rfl (fun h => qf rfl ty3 (gd h rfl)) rfl (sg rfl rfl (fun h => j8 rfl (gd h rfl) (gd h rfl)) rfl (su (zf rfl rfl rfl rfl) rfl (sm rfl rfl (sg rfl rfl (fun h => qd rfl qg7 rfl) rfl (sg rfl rfl (fun h => qf rfl ty3 (gd h rfl)) rfl (sg rfl rfl (fun h => qh rfl rfl) rfl ?_))))));refine sg rfl rfl (fun h => qg rfl K180 rfl (c180 a1) (qe (gd h rfl) qm)) rfl (sg rfl rfl (fun h => qg rfl K192 rfl (c192 a0.Days (s180 a1) (qtw _)) (qe (gd h rfl) (qe (gd h rfl) qm))) rfl (su (zf rfl rfl rfl rfl) rfl (sa rfl rfl (qc (qo ?_)))));subst hR;exact zb rfl (rv_g rfl)
def s104_j1 (rec1 : (List Int) → Int → List Int) (x2 : Int) (x4 : List Int) : List Int :=
 rec1 x4 (x2 + 1)
def s104_l1 (a0 : S45) : Nat → (List Int) → Int → List Int
 | 0, x1, x2 => x1
 | k3 + 1, x1, x2 => (bif (s157 a0 x2) then s104_j1 (fun z0_ z1_ => s104_l1 a0 k3 z0_ z1_) x2 (x1 ++ [x2]) else s104_j1 (fun z0_ z1_ => s104_l1 a0 k3 z0_ z1_) x2 x1)
def s104 (a0 : S45) : List Int :=
 s104_l1 a0 (((a0.fTo + 1) - a0.fFrom).toNat) [] a0.fFrom
theorem c104 {g : List (Nat × List Value)} (a0 : S45)  (hp0 : 0 ≤ a0.fFrom) (hp1 : a0.fTo ≤ 1000000)  : Con (EG g) 104 [G.agg [G.int a0.fFrom, G.int a0.fTo, G.int a0.Days]] (G.sl 1 (List.map cInt (s104 a0))) := by
 generalize hR : s104 a0 = R;unfold s104 at hR;refine qn Tryz.func104 rfl rfl fun w0 M0 => ?_;refine qb (qa [.p, .w] (su (zl rfl rfl) rfl (sw (zt 2 3 1 rfl rfl rfl) rfl (qc (qb (qa [.w] ?_))))));refine sw (zt 3 3 1 rfl rfl rfl) rfl (qc (qb (qb (qa [.p, .p, .p] (su (qd rfl qaq rfl) rfl (su (qf rfl ty3 rfl) rfl ?_))))));refine sa rfl rfl (qc (qi (qq (γ := Nat × (List Int) × Int) (fun g => ([(1, .g (G.ref [G.int a0.fFrom, G.int a0.fTo, G.int a0.Days])), (3, .osl 3 1 0 (List.length g.2.1)), (4, .g (G.int g.2.2))], [(3, .arr 3 1 (List.map cInt g.2.1))])) (fun g => g.1 = ((a0.fTo + 1) - g.2.2).toNat ∧ a0.fFrom ≤ g.2.2 ∧ g.2.1.length ≤ (g.2.2 - a0.fFrom).toNat ∧ s104_l1 a0 g.1 g.2.1 g.2.2 = R) (fun g => g.1) ⟨rfl, (((a0.fTo + 1) - a0.fFrom).toNat, [], a0.fFrom), ⟨rfl, rfl, rfl, trivial⟩, ⟨rfl, trivial⟩, rfl, ⟨rfl, iD, iD, hR⟩, trivial⟩ ?_)))
 ·rintro ⟨k3, x1, x2⟩ ⟨hk1, iv1_0, iv1_1, hR⟩;replace hk1 : k3 = ((a0.fTo + 1) - x2).toNat := hk1;replace hR : s104_l1 a0 k3 x1 x2 = R := hR;replace iv1_0 : a0.fFrom ≤ x2 := iv1_0;replace iv1_1 : x1.length ≤ (x2 - a0.fFrom).toNat := iv1_1;refine qb (qb (qa [.p, .p, .p, .p] (sm rfl rfl (su (qd rfl wy rfl) rfl (su (qf rfl ty3 rfl) rfl (su (j8 rfl rfl rfl) rfl ?_))))));refine qc (qj _ rfl (fun h1 => ?_) (fun h1 => ?_))
  ·replace h1 : (decide (x2 ≤ a0.fTo)) = true := h1;replace h1 := decT h1;obtain ⟨k3, rfl⟩ : ∃ m, k3 = m + 1 := ⟨k3 - 1, by omega⟩;rw [s104_l1] at hR;(try dsimp only at hR);refine ql (ja (γ := (List Int)) (fun g => ([(1, .g (G.ref [G.int a0.fFrom, G.int a0.fTo, G.int a0.Days])), (3, .osl 3 1 0 (List.length g)), (4, .g (G.int x2))], [(3, .arr 3 1 (List.map cInt g))])) (fun g => g.length ≤ (x2 + 1 - a0.fFrom).toNat ∧ s104_j1 (fun z0_ z1_ => s104_l1 a0 k3 z0_ z1_) x2 g = R) ?_ ?_)
   ·refine qi (qb (qa [.p, .p, .p] (su (qt rfl ty46 rfl rfl rfl) rfl (sm rfl rfl (su (qg rfl K157 rfl (c157 a0 x2) (qe rfl (qe rfl qm))) rfl (qc ?_))))));refine qj _ rfl (fun h3 => ?_) (fun h3 => ?_)
    ·replace h3 : ((s157 a0 x2)) = true := h3;replace hR := zj hR h3;(try simp only [bB] at h3);refine qa [.p, .p, .p, .k, .p] (su (qp rfl rfl) rfl (sm rfl rfl (su (qr rfl Tryz.underlying82 ty3 z3 rfl (qy rfl jc) rfl (by simp []) (by decide)) rfl (st_k rfl rfl (jd (f := cInt) (out := x1) (new := [x2]) rfl qfq rfl rfl (km rfl (ky (by decide) (by simp []))) (vu rfl) (by simp; omega)) rfl (su (qx rfl rfl) rfl (qc ?_))))));exact ⟨rfl, x1 ++ [x2], ⟨rfl, rfl, rfl, trivial⟩, ⟨rfl, trivial⟩, rfl, ⟨iB, hR⟩, trivial⟩
    ·replace h3 : ((s157 a0 x2)) = false := h3;replace hR := zk hR h3;(try simp only [bB] at h3);refine ql ?_;exact ⟨rfl, x1, ⟨rfl, rfl, rfl, trivial⟩, ⟨rfl, trivial⟩, rfl, ⟨iB, hR⟩, trivial⟩
   ·rintro x4 ⟨jv1_0, hR⟩;replace jv1_0 : x4.length ≤ (x2 + 1 - a0.fFrom).toNat := jv1_0;replace hR : s104_j1 (fun z0_ z1_ => s104_l1 a0 k3 z0_ z1_) x2 x4 = R := hR;unfold s104_j1 at hR;refine qa [.p, .p, .p] (sm rfl rfl (su (zc rfl rfl rfl iG) rfl (sa rfl rfl (qc ?_))));exact ⟨rfl, (k3, x4, x2 + 1), ⟨rfl, rfl, rfl, trivial⟩, ⟨rfl, trivial⟩, rfl, ⟨iB, iB, iB, hR⟩, by simp⟩
  ·replace h1 : (decide (x2 ≤ a0.fTo)) = false := h1;replace h1 := decF h1
   obtain rfl : k3 = 0 := by omega
   rw [s104_l1] at hR;refine qw ?_;refine qb (qa [.p, .p] (su (qp rfl rfl) rfl (su (qx rfl rfl) rfl (qc (qo ?_)))));subst hR;exact zb rfl (wh rfl rfl)
def s32_l1 (a1 : List S151) : List S151 → Nat → Option Bool
 | [], k2 => some true
 | y3 :: t4, k2 => bindO (ixO a1 ((k2 : Nat) : Int)) fun y5 => (bif !(eqAnd [decide (y3.Name = y5.Name), decide (y3.Moment = y5.Moment), decide (y3.Kind = y5.Kind)]) then some false else s32_l1 a1 t4 (k2 + 1))
def s32 (a0 : List S151) (a1 : List S151) : Option Bool :=
 (bif decide ((List.length a0 : Int) ≠ (List.length a1 : Int)) then some false else s32_l1 a1 a0 0)
def s30 (a0 : ByteArray) (a1 : ByteArray) (a2 : S45) (a3 : Int) : Int :=
 (s89 [(s95 a0), (s97 a1), (s40 a2), (s90 a3 0 1439)])
theorem c30 {g : List (Nat × List Value)} (a0 : ByteArray) (a1 : ByteArray) (a2 : S45) (a3 : Int)    : Con (EG g) 30 [G.str a0, G.str a1, G.agg [G.int a2.fFrom, G.int a2.fTo, G.int a2.Days], G.int a3] (G.int (s30 a0 a1 a2 a3)) := by
 generalize hR : s30 a0 a1 a2 a3 = R;unfold s30 at hR;refine qn Tryz.func30 rfl rfl fun w0 M0 => ?_;refine qb (qa [.p, .p] (su (zl rfl rfl) rfl (sa rfl rfl (qc (qb (zu [.p, .p, .p, .p, .p, .p, .p, .p, .p, .p, .p] (by kernel_rfl) ?_))))));refine sm rfl rfl (su (qg rfl K95 rfl (c95 a0) (qe rfl qm)) rfl (sm rfl rfl (su (qg rfl K97 rfl (c97 a1) (qe rfl qm)) rfl (su (qt rfl ty46 rfl rfl rfl) rfl (su (qg rfl K40 rfl (c40 a2) (qe rfl qm)) rfl (sm rfl rfl ?_))))));refine su (qg rfl K90 rfl (c90 a3 0 1439) (qe rfl (qe rfl (qe rfl qm)))) rfl (su (qr rfl Tryz.underlying82 ty3 z3 rfl (qy rfl (qy rfl (qy rfl (qy rfl jc)))) rfl (by simp []) (by decide)) rfl (su (qg rfl K89 rfl (c89 [(s95 a0), (s97 a1), (s40 a2), (s90 a3 0 1439)]) (qe rfl qm)) rfl (sa rfl rfl (qc (qo ?_)))));subst hR;exact zb rfl (rv_g rfl)
def s31_l1 (a0 : ByteArray) (a1 : ByteArray) (a3 : Int) : List Int → Nat → (List S151) → List S151
 | [], k3, x1 => x1
 | y4 :: t5, k3, x1 => s31_l1 a0 a1 a3 t5 (k3 + 1) (x1 ++ [(S151.mk a0 (IntKind.i64.wrap ((IntKind.i64.wrap (1440 * y4)) + a3)) a1)])
def s31 (a0 : ByteArray) (a1 : ByteArray) (a2 : S45) (a3 : Int) : List S151 :=
 s31_l1 a0 a1 a3 (s104 a2) 0 []
theorem c31 {g : List (Nat × List Value)} (a0 : ByteArray) (a1 : ByteArray) (a2 : S45) (a3 : Int)  (hp0 : 0 ≤ a2.fFrom) (hp1 : a2.fTo ≤ 1000000) (hm0 : (s104 a2).length ≤ 1000001)  : Con (EG g) 31 [G.str a0, G.str a1, G.agg [G.int a2.fFrom, G.int a2.fTo, G.int a2.Days], G.int a3] (G.sl 3 (List.map S151.c (s31 a0 a1 a2 a3))) := by
 generalize hR : s31 a0 a1 a2 a3 = R;unfold s31 at hR;refine qn Tryz.func31 rfl rfl fun w0 M0 => ?_;refine qb (qa [.p, .w] (su (zl rfl rfl) rfl (sw (zt 8 160 3 rfl rfl rfl) rfl (qc (qb (qa [.w] ?_))))));refine sw (zt 9 160 3 rfl rfl rfl) rfl (qc (qb (qa [.p, .p, .p] (su (qt rfl ty46 rfl rfl rfl) rfl (su (qg rfl K104 rfl (c104 a2 iA iA) (qe rfl qm)) rfl (sa rfl rfl ?_))))));refine qc (qb (qb (qa [.p] (sa rfl rfl (qc (qi ?_))))));refine qq (γ := Nat × (List Int) × (List S151)) (fun g => ([(0, .g (G.str a0)), (1, .g (G.str a1)), (3, .g (G.int a3)), (9, .osl 9 3 0 (List.length g.2.2)), (10, .g (G.sl 1 (List.map cInt (s104 a2)))), (11, .g (G.int ((g.1 : Nat) : Int)))], [(9, .arr 160 3 (List.map S151.c g.2.2))])) (fun g => g.2.2.length ≤ g.1 ∧ (s104 a2).drop g.1 = g.2.1 ∧ s31_l1 a0 a1 a3 g.2.1 g.1 g.2.2 = R) (fun g => List.length g.2.1) ⟨rfl, (0, (s104 a2), []), ⟨rfl, rfl, rfl, rfl, rfl, rfl, trivial⟩, ⟨rfl, trivial⟩, rfl, ⟨iH, rfl, hR⟩, trivial⟩ ?_
 ·rintro ⟨k3, t5, x1⟩ ⟨iv1_0, hd, hR⟩;replace hd : (s104 a2).drop k3 = t5 := hd;replace hR : s31_l1 a0 a1 a3 t5 k3 x1 = R := hR;replace iv1_0 : x1.length ≤ k3 := iv1_0;refine qb (qb (qa [.p, .p, .p, .p] (sm rfl rfl (sm rfl rfl (su (qv (f := cInt) (l := (s104 a2)) rfl Tryz.underlying82 rfl) rfl (su (qu rfl rfl rfl) rfl ?_))))));refine qc (zd (f := cInt) (l := (s104 a2)) 10 rfl fun hlz1 => ?_);refine qj _ rfl (fun h1 => ?_) (fun h1 => ?_)
  ·replace h1 : (decide (((k3 : Nat) : Int) < (List.length (s104 a2) : Int))) = true := h1;obtain ⟨y4, t5, rfl, hx1, hd⟩ := ze hd (decT h1);replace h1 := decT h1;rw [s31_l1] at hR;(try dsimp only at hR);refine ql (qb (qi (qa [.p, .p, .p, .p, .p, .p, .p, .p, .p, .p, .p, .p, .k, .p] (su (qp rfl rfl) rfl (sm rfl rfl (sm rfl rfl ?_))))));refine sm rfl rfl (su (zh (f := cInt) (l := (s104 a2)) (a := y4) rfl Tryz.underlying82 ty3 rfl rfl (Int.natCast_nonneg _) hx1) rfl (su (qf rfl ty3 rfl) rfl (su (qa2 rfl rfl rfl) rfl (sm rfl rfl (su (z6 rfl rfl rfl) rfl (sm rfl rfl ?_))))));refine su (je rfl z160 rfl qvw (zr rfl (zr rfl (zr rfl kw))) rfl) rfl (su (qr rfl Tryz.underlying32 vw z160 rfl (qy rfl jc) rfl (by simp only [List.mem_singleton, forall_eq]; rfl) (by decide)) rfl (st_k rfl rfl (jd (f := S151.c) (out := x1) (new := [(S151.mk a0 (IntKind.i64.wrap ((IntKind.i64.wrap (1440 * y4)) + a3)) a1)]) rfl qnj rfl rfl (km rfl (ky (by decide) (by simp [S151.c]))) (vu rfl) (by simp; omega)) rfl (su (qx rfl rfl) rfl (qc (qa [.p, .p, .p] (sm rfl rfl ?_))))));refine su (zc rfl rfl rfl iE) rfl (sa rfl rfl (qc ?_));exact ⟨rfl, (k3 + 1, t5, x1 ++ [(S151.mk a0 (IntKind.i64.wrap ((IntKind.i64.wrap (1440 * y4)) + a3)) a1)]), ⟨rfl, rfl, rfl, rfl, rfl, rfl, trivial⟩, ⟨rfl, trivial⟩, rfl, ⟨iB, hd, hR⟩, by simp⟩
  ·replace h1 : (decide (((k3 : Nat) : Int) < (List.length (s104 a2) : Int))) = false := h1;obtain rfl := zm hd (decF h1);rw [s31_l1] at hR;refine qw ?_;refine qb (qa [.p, .p] (su (qp rfl rfl) rfl (su (qx rfl rfl) rfl (qc (qo ?_)))));subst hR;exact zb rfl (wh rfl rfl)
theorem qbw {l : List Int} (h : s84 l = 0) : ∀ x ∈ l, x = 0 := by
 have key : ∀ (l : List Int) (k : Nat), s84_l1 l k = 0 → ∀ x ∈ l, x = 0 := by
  intro l
  induction l with
  | nil => intro k _ x hx; cases hx
  | cons y l ih =>
   intro k h x hx;rw [s84_l1] at h
   by_cases hy : y = 0
   ·subst hy
    simp at h
    rcases List.mem_cons.1 hx with rfl | hx
    ·rfl
    ·exact ih _ h x hx
   ·simp [hy] at h
 exact key l 0 h
theorem qkv {a b c : Int} (h : s85 a b c = 0) : b ≤ a ∧ a ≤ c := by
 unfold s85 s86 at h
 by_cases h1 : a < b
 ·simp [h1] at h
 ·by_cases h2 : c < a
  ·simp [h2] at h
  ·omega
end Go.Sim
set_option maxRecDepth 10000
namespace Go.Sim
open Go.Proofs
def s29 (a0 : ByteArray) (a1 : ByteArray) (a2 : S45) (a3 : Int) : (List S151) × Int :=
 (bif decide ((s84 [(s87 a0), (s101 a1), (s102 a2), (s85 a3 0 1439)]) ≠ 0) then ([], (s84 [(s87 a0), (s101 a1), (s102 a2), (s85 a3 0 1439)])) else (slotsL a0 a1 (momL a3 (dayL a2.Days (a2.fTo + 1 - a2.fFrom).toNat a2.fFrom)), 0))
theorem qhz (p : S45) : s102 p = s40 p := by
 unfold s102 s40
 have e : ∀ l, s152 l = s89 l := fun l => by
  unfold s152 s89;generalize 0 = k
  induction l generalizing k with
  | nil => rfl
  | cons x l ih => rw [s152_l1, s89_l1, ih]
 simp only [e, xq, wn, s153, s155, s109, s90, s154]
 by_cases h1 : p.fFrom < 0 <;> by_cases h1' : 99999 < p.fFrom <;> by_cases h2 : p.fTo < 0 <;> by_cases h2' : 99999 < p.fTo <;> simp only [h1, h1', h2, h2', decide_true, decide_false, Bool.or_true, Bool.true_or, Bool.or_false, cond_true, cond_false] <;> try rfl
 by_cases h3 : p.fTo < p.fFrom <;> by_cases h4 : 400 < IntKind.i64.wrap (p.fTo - p.fFrom) <;> by_cases h5 : p.Days < 1 <;> by_cases h6 : 127 < p.Days <;> simp [h3, h4, h5, h6]
set_option maxRecDepth 100000 in
theorem qqf : ∀ m : Fin 128, ∀ w : Fin 7, s192 (m.1 : Int) (w.1 : Int) = decide (andI (shrI (m.1 : Int) (w.1 : Int)) 1 = 1) := by decide +kernel
theorem qtx {m d : Int} (h1 : 1 ≤ m) (h2 : m ≤ 127) (h3 : 0 ≤ d) (h4 : d ≤ 1000000) : s192 m (s180 d) = inM m d := by
 have hw : s180 d = (d + 5) % 7 := by
  unfold s180;rw [wrap_i64 (by unfold I64; omega), Int.tmod_eq_emod_of_nonneg (by omega)]
 rw [hw];have := qqf ⟨m.toNat, by omega⟩ ⟨((d + 5) % 7).toNat, by omega⟩;simp only at this;rw [Int.toNat_of_nonneg (by omega), Int.toNat_of_nonneg (by omega)] at this;exact this
theorem qh0 (p : S45) (h1 : 1 ≤ p.Days) (h2 : p.Days ≤ 127) (h3 : 0 ≤ p.fFrom) (h4 : p.fTo ≤ 99999) : ∀ (n : Nat) (x : List Int) (d : Int), p.fFrom ≤ d → n = (p.fTo + 1 - d).toNat → s104_l1 p n x d = x ++ dayL p.Days n d
 | 0, x, d, _, _ => by simp [s104_l1, dayL]
 | n + 1, x, d, hd, hn => by
  rw [s104_l1, dayL]
  have hs : s157 p d = inM p.Days d := by
   unfold s157;rw [qtx h1 h2 (by omega) (by omega), decide_eq_true (by omega), decide_eq_true (by omega)]
   simp
  rw [hs];unfold s104_j1;have ih := fun x => qh0 p h1 h2 h3 h4 n x (d + 1) (by omega) (by omega);show (bif inM p.Days d then s104_l1 p n (x ++ [d]) (d + 1) else s104_l1 p n x (d + 1)) = _;rw [ih, ih]
  cases inM p.Days d <;> simp
theorem qdh (p : S45) (h : s102 p = 0) : s104 p = dayL p.Days (p.fTo + 1 - p.fFrom).toNat p.fFrom := by
 obtain ⟨q1, q2, q3, q4, q5, q6⟩ := period_ok p h;unfold s104;rw [qh0 p q5 q6 q1 q3 _ _ _ (Int.le_refl _) rfl]; rfl
theorem qa3 (m : Int) : ∀ (n : Nat) (f : Int), ∀ d ∈ dayL m n f, f ≤ d ∧ d < f + n
 | 0, f, d, h => by simp [dayL] at h
 | n + 1, f, d, h => by
  unfold dayL at h
  split at h
  ·rcases List.mem_cons.1 h with rfl | h
   ·omega
   ·have := qa3 m n _ d h; omega
  ·have := qa3 m n _ d h; omega
end Go.Sim
set_option maxRecDepth 10000
namespace Go.Sim
open Go.Proofs
noncomputable def s4 (a0 : S47) : Option Bool :=
 (bif ((!s16) || (decide (60 < (ByteArray.size a0.Name : Int)))) || (decide (60 < (ByteArray.size a0.Kind : Int))) then some s16 else (bif decide ((s30 a0.Name a0.Kind (S45.mk a0.Period.fFrom a0.Period.fTo a0.Period.Days) a0.Minute) = 0) then bindO (s32 (s20 ((s29 a0.Name a0.Kind (S45.mk a0.Period.fFrom a0.Period.fTo a0.Period.Days) a0.Minute).1)) (s31 a0.Name a0.Kind (S45.mk a0.Period.fFrom a0.Period.fTo a0.Period.Days) a0.Minute)) fun r1 => some (r1 && (decide ((s29 a0.Name a0.Kind (S45.mk a0.Period.fFrom a0.Period.fTo a0.Period.Days) a0.Minute).2 = (s30 a0.Name a0.Kind (S45.mk a0.Period.fFrom a0.Period.fTo a0.Period.Days) a0.Minute)))) else bindO (s32 (s20 ((s29 a0.Name a0.Kind (S45.mk a0.Period.fFrom a0.Period.fTo a0.Period.Days) a0.Minute).1)) []) fun r2 => some (r2 && (decide ((s29 a0.Name a0.Kind (S45.mk a0.Period.fFrom a0.Period.fTo a0.Period.Days) a0.Minute).2 = (s30 a0.Name a0.Kind (S45.mk a0.Period.fFrom a0.Period.fTo a0.Period.Days) a0.Minute))))))
section
variable {E : Env} {w0 : World} {M0 : Nat → Prop}
theorem qqg {a : Act} {w : World} {s : ASt} (σ : List (Nat × Nat)) {l : List (Nat × TV)} {m : Mem} (h1 : RenL s σ l) (h2 : RenM s σ m) (h3 : closedB l m = true) (h4 : renOk σ m = true) (hbw : (E.bow.all fun p => (lookO m p.1).isSome && Nat.beq (renOld σ p.1) p.1) = true) (ha : ARel E w0 M0 s a w) : ARel E w0 M0 (stt s.n l m) a w := by
 obtain ⟨ρ, hm, ht⟩ := ha.ex;simp only [closedB, Bool.and_eq_true, List.all_eq_true] at h3
 let ρ' : Rho := fun id => if (lookO m id).isSome = true then ρ (renOld σ id) else none
 have hρ : ∀ id, (lookO m id).isSome = true → ρ' id = ρ (renOld σ id) := fun id hi => by simp only [ρ', if_pos hi]
 have hρ' : ∀ id x, ρ' id = some x → ρ (renOld σ id) = some x ∧ ∃ b, lookO m id = some b := by
  intro id x hx;simp only [ρ'] at hx
  split at hx
  ·rename_i hi; exact ⟨hx, Option.isSome_iff_exists.1 hi⟩
  ·cases hx
 have hM : ∀ b, owned M0 ρ' b → owned M0 ρ b := by
  rintro b (hb | ⟨id, o, ho, rfl⟩)
  ·exact .inl hb
  ·exact .inr ⟨_, o, (hρ' id _ ho).1, rfl⟩
 refine ⟨ha.defers, ha.size, ρ', ⟨hm.below, hm.m0, ?_, ?_, ?_, ?_, ?_, hm.lentM, ?_⟩, ?_⟩
 ·intro g vs hg;have := hm.glob g vs hg;exact ⟨⟨fun hb => this.1.1 (hM _ hb), this.1.2⟩, this.2.mono (fun _ _ _ => rfl) (fun b _ => hM b) this.1.1⟩
 ·exact fun id x hx => (hρ' id x hx).2
 ·exact fun id ow ho => hm.fresh _ ow (hρ' id _ ho).1
 ·intro i j oi oj hi hj he;obtain ⟨i1, bi, i2⟩ := hρ' i _ hi;obtain ⟨j1, bj, j2⟩ := hρ' j _ hj;have := hm.inj _ _ oi oj i1 j1 he;have := qdi (f := fun p : Nat × Blk => renOld σ p.1) h4 (jm _ i2) (jm _ j2) this;exact congrArg Prod.fst this
 ·intro id x hx;have := List.all_eq_true.1 hbw (id, x) (jm _ hx);simp only [Bool.and_eq_true] at this;rw [hρ id this.1, Nat.eq_of_beq_eq_true this.2];exact hm.keep id x hx
 ·intro i blk' hb0;have hb0 : lookO m i = some blk' := hb0
  have hi : (lookO m i).isSome = true := by rw [hb0]; rfl
  have := hm.blk _ _ (qdj h2 i blk' hb0)
  cases blk' with
  | box cs =>
   obtain ⟨ow, e, vs, g1, g2, g3, g4⟩ := this;have hcl := h3.2 (i, .box cs) (jm _ hb0);exact ⟨ow, e, vs, by rw [hρ i hi]; exact g1, g2, g3, g4.ren hM hρ (by simpa [blkIn] using hcl)⟩
  | arr e k xs =>
   rcases this with ⟨g1, g2⟩ | ⟨ow, vs, g1, g2, g3, g4, g5, g6, g7⟩
   ·exact .inl ⟨by rw [hρ i hi]; exact g1, g2⟩
   ·exact .inr ⟨ow, vs, by rw [hρ i hi]; exact g1, g2, g3, g4, g5, g6, g7.mono (fun _ _ _ => rfl) (fun b _ => hM b)⟩
  | mp es =>
   obtain ⟨ow, en, cl, g1, g2, g3, g4⟩ := this;exact ⟨ow, en, cl, by rw [hρ i hi]; exact g1, g2, g3.mono (fun _ _ _ => rfl) (fun b _ => hM b), g4⟩
  | it s pos =>
   obtain ⟨ow, g1, g2, g3⟩ := this;exact ⟨ow, by rw [hρ i hi]; exact g1, g2, g3⟩
  | mit es seen =>
   obtain ⟨ow, g1, g2, g3⟩ := this;exact ⟨ow, by rw [hρ i hi]; exact g1, g2, g3.mono rfl (fun _ _ _ => rfl) (fun b _ => hM b)⟩
  | gone => trivial
 ·intro i;show TRel _ _ _ (lookT l i) _
  rcases qfx h1 i with h4 | ⟨h4, h5⟩
  ·rw [h4]; trivial
  ·have := ht i;rw [h4] at this;exact this.ren (m := m) (h3.1 _ h5) hM hρ
def aren (E : Env) (Q : Exit → ASt → Prop) : Exit → ASt → Prop
 | .normal, s => ∃ σ l m, RenL s σ l ∧ RenM s σ m ∧ closedB l m = true ∧ renOk σ m = true ∧ (E.bow.all fun p => (lookO m p.1).isSome && Nat.beq (renOld σ p.1) p.1) = true ∧ Q .normal (stt s.n l m)
 | e, s => Q e s
theorem qtb {c : Code} {Q : Exit → ASt → Prop} {s : ASt} (h : AWp E w0 M0 c (aren E Q) s) : AWp E w0 M0 c Q s := fun a w ha =>
 wp_mono (h a w ha) fun e a' w' ⟨s', h1, h2⟩ => by
  cases e with
  | normal =>
   obtain ⟨σ, l, m, g1, g2, g3, g4, g5, g6⟩ := h2;exact ⟨_, qqg σ g1 g2 g3 g4 g5 h1, g6⟩
  | _ => exact ⟨s', h1, h2⟩
theorem qqh {o : Oper} {ev : Operand → TV} {x : Operand} (k : Nat) (ho : o.op = .assign x) (h : ev x = .g (.lit (.slice none 0 0))) (mem : Mem) : Eff E o mem ev (.g (.sl k [])) :=
 z7 (fun w M ρ e hx => ⟨e x, by simp [execOp, ho], by
  have h1 := hx x (by rw [ho]; simp [Op.operands]);rw [h] at h1;have h2 : e x = .slice none 0 0 := h1;rw [h2]
  exact qbx k w M⟩) mem
end
def statL : List ByteArray := [⟨#[114, 101, 116, 117, 114, 110, 101, 100]⟩, ⟨#[102, 108, 111, 119, 110]⟩, ⟨#[101, 120, 99, 117, 115, 101, 100]⟩, ⟨#[109, 105, 115, 115, 101, 100]⟩]
def lenL : List Int := [31, 28, 31, 30, 31, 30, 31, 31, 30, 31, 30, 31]
theorem qp5 (n : Int) : -9223372036854775808 ≤ IntKind.i64.wrap n ∧ IntKind.i64.wrap n ≤ 9223372036854775807 := by rw [IntKind.wrap_i64]; omega
end Go.Sim
