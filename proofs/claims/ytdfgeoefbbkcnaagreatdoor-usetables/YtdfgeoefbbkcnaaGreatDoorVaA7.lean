/-
  What is proved: the known calls of the run of awake are sound; laws of bits.
-/
import Derived.Test.YtdfgeoefbbkcnaaGreatDoorVaA3
import Derived.Test.YtdfgeoefbbkcnaaGreatDoorVaA6
set_option linter.unusedSectionVars false
set_option linter.unusedSimpArgs false
set_option linter.unusedVariables false
set_option linter.unnecessarySimpa false
set_option linter.deprecated false
namespace Go.Ex
open Go.Proofs (dayL momL slotVs)
open Go.Proofs
section
variable {w0 : World} {ro c : Nat} {ρ : Rh} {h : H} {w : World}
theorem qqg {w' : World} {b : Nat} {B : B} (hr : Rel w0 ρ h w) (hd : Dom ρ c) (hc : c < 1048576) (hg : Sim.Grow w w') (hb : w.heap.size ≤ b) (hb' : b < w'.heap.size) (hB : B.wr = false) (hbr : BR w' (upd ρ c ⟨b, 0⟩) ⟨b, 0⟩ B) :
  Rel w0 (upd ρ c ⟨b, 0⟩) (hset h c B) w' ∧ Ext ro c ρ w (upd ρ c ⟨b, 0⟩) w' (c + 1) := by
 have hfm : ∀ k, k < w.heap.size → w'.heap[k]? = w.heap[k]? := fun k hk => hg.block k hk
 have hsub := qm1 hd ⟨b, 0⟩
 refine ⟨⟨RowKit.Below.trans hr.below (RowKit.Below.mono hg hr.below.size), fun id l hl => ?_, fun id id' l l' b' h1 h2 h3 h4 h5 => ?_⟩, ⟨hsub, hg.size, xy hfm, hg.os, hg.tape, hg.output, fun k hk _ => hfm k hk, fun id l hl => ?_, Nat.le_succ _, fun _ => hc⟩⟩
 ·rw [jv hc]
  simp only [upd] at hl
  split at hl
  ·rename_i hi
   cases hl
   rw [if_pos hi]
   exact ⟨B, rfl, hb', hbr, fun e => by rw [hB] at e; cases e⟩
  ·rename_i hi
   rw [if_neg hi]
   obtain ⟨b1, k1, k2, k3, k4⟩ := hr.blk id l hl
   exact ⟨b1, k1, Nat.lt_of_lt_of_le k2 hg.size, BR.mono hsub (xy hfm) k3 (hfm _ k2), k4⟩
 ·rw [jv hc] at h4 ⊢
  simp only [upd] at h1 h2
  by_cases hi : id = c
  ·rw [if_pos hi] at h4
   cases h4
   rw [hB] at h5; cases h5
  ·rw [if_neg hi] at h1 h4
   by_cases hi' : id' = c
   ·rw [if_pos hi'] at h2; cases h2
    obtain ⟨_, _, k2, _⟩ := hr.blk id l h1
    exfalso; simp at h3; omega
   ·rw [if_neg hi'] at h2 ⊢
    exact hr.inj id id' l l' b' h1 h2 h3 h4 h5
 ·simp only [upd] at hl
  split at hl
  ·rename_i hi; cases hl; exact .inr ⟨by omega, by omega, .inl hb⟩
  ·exact .inl hl
theorem qqh {w' : World} {ρ' : Rh} {k b cap n : Nat} {cur : Array Value} {e : TypeId} {id : Nat} (hid : ρ' id = some ⟨b, 0⟩) (h1 : n ≤ cap) (h2 : cap ≤ maxLen) (h3 : w'.heap[b]? = some (.cells cur e (0, 0))) (h4 : cur.size = cap * k) : VR w' ρ' (.sl id 0 n k none) (.slice (some ⟨b, 0, none⟩) n cap) :=
 .sl hid h1 h2 (.inl rfl) (.inr ⟨rfl, cur, e, (0, 0), h3, by omega⟩)
theorem qg6 {l : List Value} {u : Value} (h : VR w ρ (.agg (l.map .lit)) u) : u = .agg l.toArray := by
 cases h with
 | agg h =>
  have : ∀ {l : List Value} {us : List Value}, VC w ρ (l.map .lit) us → us = l := by
   intro l
   induction l with
   | nil => intro us h; cases h; rfl
   | cons x l ih => intro us h; cases h with | cons h _ k => rw [h.lit_inv, ih k]
  rw [this h]
def daysO (a b m : Int) : Option (List Int) := bif decide (Sim.s102 ⟨a, b, m⟩ = 0) then match dayL m (b + 1 - a).toNat a with | [] => none | d :: l => some (d :: l) else none
theorem qkd {a b m : Int} {l : List Int} (h : daysO a b m = some l) : Sim.s102 ⟨a, b, m⟩ = 0 ∧ dayL m (b + 1 - a).toNat a = l ∧ l ≠ [] := by
 unfold daysO at h
 cases hd : decide (Sim.s102 ⟨a, b, m⟩ = 0) with
 | false => rw [hd] at h; cases h
 | true =>
  rw [hd, cond_true] at h
  split at h
  ·cases h
  ·rename_i d t e; cases h; exact ⟨of_decide_eq_true hd, e, by simp⟩
theorem qg7 (nm kd : ByteArray) (mi : Int) : ∀ l : List Int, (l.flatMap fun d => slotVs nm kd (1440 * d + mi)).length = l.length * 3
 | [] => rfl
 | x :: l => by
  rw [List.flatMap_cons, List.length_append, qg7 nm kd mi l, List.length_cons]
  show 3 + _ = _
  omega
noncomputable def orc69 (a b m : Int) (h : H) (c : Nat) : Option (V × H × Nat) := match daysO a b m with
 | some l => bif Nat.blt c top then forceN l.length fun n => some (.tup [.sl c 0 n 1 none, .lit (.int .i64 0)], hset h c (.fix (l.map fun d => .lit (.int .i64 d))), c + 1) else none
 | none => none
noncomputable def orc103 (nm kd : ByteArray) (a b m mi : Int) (h : H) (c : Nat) : Option (V × H × Nat) := match daysO a b m with
 | some l => bif Nat.blt c top && decide (0 ≤ mi) && decide (mi ≤ 1000000) then forceN l.length fun n => some (.sl c 0 n 3 none, hset h c (.fix ((l.flatMap fun d => slotVs nm kd (1440 * d + mi)).map .lit)), c + 1) else none
 | none => none
theorem qph {a b m : Int} {v : V} {h' : H} {c' : Nat} (e : orc69 a b m h c = some (v, h', c')) (hr : Rel w0 ρ h w) (hd : Dom ρ c) {args : List Value} (hv : VL w ρ [.agg [.lit (.int .i64 a), .lit (.int .i64 b), .lit (.int .i64 m)]] args) :
  Calls Tryz.prog 69 args.toArray w fun e w' => ∃ u ρ', e = .returned u ∧ Rel w0 ρ' h' w' ∧ Ext ro c ρ w ρ' w' c' ∧ VR w' ρ' v u := by
 unfold orc69 at e
 cases hl : daysO a b m with
 | none => rw [hl] at e; cases e
 | some l =>
  rw [hl] at e
  dsimp only at e
  obtain ⟨k1, k2, k3⟩ := qkd hl
  cases hc : Nat.blt c top with
  | false => rw [hc] at e; cases e
  | true =>
   rw [hc, cond_true, zo] at e
   simp only [Option.some.injEq, Prod.mk.injEq] at e
   obtain ⟨rfl, rfl, rfl⟩ := e
   have hc : c < 1048576 := Nat.le_of_ble_eq_true hc
   cases hv with
   | cons ha hn =>
    cases hn
    have := qg6 (l := [.int .i64 a, .int .i64 b, .int .i64 m]) ha
    subst this
    have hcon := Sim.c69 (g := []) ⟨a, b, m⟩
    have hs : Sim.s69 ⟨a, b, m⟩ = (l, 0) := by unfold Sim.s69; rw [k1]; exact congrArg (·, (0 : Int)) k2
    rw [hs] at hcon
    refine (hcon w (fun b => b < w.heap.size) [.agg #[.int .i64 a, .int .i64 b, .int .i64 m]] (fun _ h => h) Sim.glOk_nil ⟨⟨_, rfl, ⟨rfl, rfl⟩, ⟨rfl, rfl⟩, ⟨rfl, rfl⟩, trivial⟩, trivial⟩).mono ?_
    rintro e w' ⟨u, rfl, h1, us, rfl, h2⟩
    match us, h2 with
    | [u1, u2], h2 =>
     obtain ⟨⟨_, q⟩, q2, _⟩ := h2
     have q2 : u2 = .int .i64 0 := q2
     subst q2
     rcases q with ⟨q, _⟩ | ⟨bb, cap, cur, ty, rfl, q2, q3, q4, q5, q6, q7⟩
     ·exact absurd (by simpa using q) k3
     ·have q4 : w.heap.size ≤ bb := Nat.le_of_not_lt q4
      have hlt := (Array.getElem?_eq_some_iff.1 q5).1
      rw [List.length_map] at q2 q7
      replace q2 : l.length ≤ cap := q2
      replace q6 : cur.size = cap * 1 := q6
      have hbr : BR w' (upd ρ c ⟨bb, 0⟩) ⟨bb, 0⟩ (.fix (l.map fun d => .lit (.int .i64 d))) := by
       rw [Sim.flat_ints] at q7
       have q8 := Sim.fits_lits_eq q7
       refine ⟨cur, ty, (0, 0), q5, by rw [List.length_map, q6]; show 0 + l.length ≤ cap * 1; omega, ?_⟩
       rw [List.length_map, show ((⟨bb, 0⟩ : Loc).o) = 0 from rfl, List.drop_zero, ← Nat.mul_one l.length, q8]
       have : (l.map fun d => V.lit (.int .i64 d)) = (l.map (Value.int .i64)).map .lit := by rw [List.map_map]; rfl
       rw [this]
       exact VC.lits fun v hv => by obtain ⟨x, _, rfl⟩ := List.mem_map.1 hv; rfl
      obtain ⟨g1, g2⟩ := qqg (ro := ro) hr hd hc h1 q4 hlt rfl hbr
      refine ⟨_, _, rfl, g1, g2, .tup (.cons ?_ (.cons (.lit _) .nil))⟩
      rw [List.length_map]
      exact qqh (by simp [upd]) q2 q3 q5 q6
theorem qnq {nm kd : ByteArray} {a b m mi : Int} {v : V} {h' : H} {c' : Nat} (e : orc103 nm kd a b m mi h c = some (v, h', c')) (hr : Rel w0 ρ h w) (hd : Dom ρ c) {args : List Value} (hv : VL w ρ [.lit (.string nm), .lit (.string kd), .agg [.lit (.int .i64 a), .lit (.int .i64 b), .lit (.int .i64 m)], .lit (.int .i64 mi)] args) :
  Calls Tryz.prog 103 args.toArray w fun e w' => ∃ u ρ', e = .returned u ∧ Rel w0 ρ' h' w' ∧ Ext ro c ρ w ρ' w' c' ∧ VR w' ρ' v u := by
 unfold orc103 at e
 cases hl : daysO a b m with
 | none => rw [hl] at e; cases e
 | some l =>
  rw [hl] at e
  dsimp only at e
  obtain ⟨k1, k2, k3⟩ := qkd hl
  cases hc : (Nat.blt c top && decide (0 ≤ mi) && decide (mi ≤ 1000000)) with
  | false => rw [hc] at e; cases e
  | true =>
   rw [hc, cond_true, zo] at e
   simp only [Option.some.injEq, Prod.mk.injEq] at e
   obtain ⟨rfl, rfl, rfl⟩ := e
   simp only [Bool.and_eq_true] at hc
   have hm0 := of_decide_eq_true hc.1.2
   have hm1 := of_decide_eq_true hc.2
   have hc : c < 1048576 := Nat.le_of_ble_eq_true hc.1.1
   cases hv with
   | cons v1 hv =>
    cases hv with
    | cons v2 hv =>
     cases hv with
     | cons ha hv =>
      cases hv with
      | cons v4 hv =>
       cases hv
       have := qg6 (l := [.int .i64 a, .int .i64 b, .int .i64 m]) ha
       subst this
       have := v1.lit_inv; subst this
       have := v2.lit_inv; subst this
       have := v4.lit_inv; subst this
       have hcon := Sim.c103X (g := []) nm kd ⟨a, b, m⟩ mi k1 hm0 hm1
       dsimp only at hcon
       rw [k2] at hcon
       refine (hcon w (fun b => b < w.heap.size) [.string nm, .string kd, .agg #[.int .i64 a, .int .i64 b, .int .i64 m], .int .i64 mi] (fun _ h => h) Sim.glOk_nil ⟨rfl, rfl, ⟨_, rfl, ⟨rfl, rfl⟩, ⟨rfl, rfl⟩, ⟨rfl, rfl⟩, trivial⟩, rfl, trivial⟩).mono ?_
       rintro e w' ⟨u, rfl, h1, _, q⟩
       have hlen : (List.map Sim.S151.c (Sim.slotsL nm kd (momL mi l))).length = l.length := by simp [Sim.slotsL, momL]
       rcases q with ⟨q, _⟩ | ⟨bb, cap, cur, ty, rfl, q2, q3, q4, q5, q6, q7⟩
       ·exact absurd (by simpa [Sim.slotsL, momL] using q) k3
       ·have q4 : w.heap.size ≤ bb := Nat.le_of_not_lt q4
        have hlt := (Array.getElem?_eq_some_iff.1 q5).1
        rw [hlen] at q2 q7
        have hfl : (momL mi l).flatMap (slotVs nm kd) = l.flatMap fun d => slotVs nm kd (1440 * d + mi) := by simp [momL, List.flatMap_map]
        have hfn := qg7 nm kd mi l
        have hbr : BR w' (upd ρ c ⟨bb, 0⟩) ⟨bb, 0⟩ (.fix ((l.flatMap fun d => slotVs nm kd (1440 * d + mi)).map .lit)) := by
         rw [Sim.flat_slots, hfl] at q7
         have q8 := Sim.fits_lits_eq q7
         refine ⟨cur, ty, (0, 0), q5, by rw [List.length_map, hfn, q6]; show 0 + l.length * 3 ≤ cap * 3; omega, ?_⟩
         rw [List.length_map, show ((⟨bb, 0⟩ : Loc).o) = 0 from rfl, List.drop_zero, hfn, q8]
         refine VC.lits fun v hv => ?_
         obtain ⟨x, _, hx⟩ := List.mem_flatMap.1 hv
         simp [slotVs] at hx
         rcases hx with rfl | rfl | rfl <;> rfl
        obtain ⟨g1, g2⟩ := qqg (ro := ro) hr hd hc h1 q4 hlt rfl hbr
        refine ⟨_, _, rfl, g1, g2, ?_⟩
        rw [hlen]
        exact qqh (by simp [upd]) q2 q3 q5 q6
theorem qsi {a b m : Int} {v : V} {ro : Nat} {h' : H} {c' : Nat} (e : orc69 a b m h c = some (v, h', c')) : Keep ro c h h' ∧ c ≤ c' ∧ c' ≤ 1048576 := by
 unfold orc69 at e
 cases hl : daysO a b m with
 | none => rw [hl] at e; cases e
 | some l =>
  rw [hl] at e
  dsimp only at e
  cases hc : Nat.blt c top with
  | false => rw [hc] at e; cases e
  | true =>
   rw [hc, cond_true, zo] at e
   simp only [Option.some.injEq, Prod.mk.injEq] at e
   obtain ⟨rfl, rfl, rfl⟩ := e
   have hc : c < 1048576 := Nat.le_of_ble_eq_true hc
   exact ⟨fun id _ h2 => by rw [jv hc, if_neg (by omega)], Nat.le_succ _, hc⟩
theorem qpi {nm kd : ByteArray} {a b m mi : Int} {v : V} {ro : Nat} {h' : H} {c' : Nat} (e : orc103 nm kd a b m mi h c = some (v, h', c')) : Keep ro c h h' ∧ c ≤ c' ∧ c' ≤ 1048576 := by
 unfold orc103 at e
 cases hl : daysO a b m with
 | none => rw [hl] at e; cases e
 | some l =>
  rw [hl] at e
  dsimp only at e
  cases hc : (Nat.blt c top && decide (0 ≤ mi) && decide (mi ≤ 1000000)) with
  | false => rw [hc] at e; cases e
  | true =>
   rw [hc, cond_true, zo] at e
   simp only [Option.some.injEq, Prod.mk.injEq] at e
   obtain ⟨rfl, rfl, rfl⟩ := e
   simp only [Bool.and_eq_true] at hc
   have hc : c < 1048576 := Nat.le_of_ble_eq_true hc.1.1
   exact ⟨fun id _ h2 => by rw [jv hc, if_neg (by omega)], Nat.le_succ _, hc⟩
end
end Go.Ex
namespace Go.Ex
open Go.Proofs
def gl (g : Nat) : Bool := Nat.beq g 0 || Nat.beq g 1
noncomputable def h0 : H := hset (hset .nil 0 (.fix (Sim.statusCells.map .lit))) 1 (.fix (Sim.lengthCells.map .lit))
def isInt (n : Int) : Re (V × H × Nat) → Bool
 | .ok (.lit (.int .i64 m), _, _) => decide (m = n)
 | _ => false
def isBool (b : Bool) : Re (V × H × Nat) → Bool
 | .ok (.lit (.bool m), _, _) => m == b
 | _ => false
theorem j7 {n : Int} {r : Re (V × H × Nat)} (h : isInt n r = true) : ∃ h' c', r = .ok (.lit (.int .i64 n), h', c') := by
 unfold isInt at h
 split at h
 ·rename_i m h' c'; exact ⟨h', c', by rw [of_decide_eq_true h]⟩
 ·cases h
theorem qmv {b : Bool} {r : Re (V × H × Nat)} (h : isBool b r = true) : ∃ h' c', r = .ok (.lit (.bool b), h', c') := by
 unfold isBool at h
 split at h
 ·rename_i m h' c'; exact ⟨h', c', by rw [of_decide_eq_true (by simpa using h) |> fun (e : m = b) => e]⟩
 ·cases h
theorem xu {c0 : Nat} (hc : 2 ≤ c0) : ∀ g, gl g = true → g < c0 ∧ ∃ vs : List Value, vs ≠ [] ∧ (g, vs) ∈ Sim.glT ∧ h0.get g = some (.fix (vs.map .lit)) := by
 intro g hg
 have hgg : g = 0 ∨ g = 1 := by simpa [gl, Nat.beq_eq] using hg
 rcases hgg with rfl | rfl
 ·refine ⟨by omega, Sim.statusCells, by unfold Sim.statusCells; simp, by unfold Sim.glT; simp, ?_⟩
  unfold h0
  rw [jv (by decide), if_neg (by decide), jv (by decide), if_pos rfl]
 ·refine ⟨by omega, Sim.lengthCells, by unfold Sim.lengthCells; simp, by unfold Sim.glT; simp, ?_⟩
  unfold h0
  rw [jv (by decide), if_pos rfl]
theorem qiw : isInt 85 (call Tryz.prog gl (fun _ _ _ _ _ => none) 40 189 [.lit (.int .i64 2000), .lit (.int .i64 3)] h0 1000 1000) = true := by kernel_rfl
theorem qix : Sim.Con (Sim.EG Sim.glT) 189 [Sim.G.int 2000, Sim.G.int 3] (Sim.G.int 85) := by
 obtain ⟨h', c', h⟩ := j7 qiw
 exact zx (vs := [.int .i64 2000, .int .i64 3]) j5 jj (by decide) (xu (by decide)) h
theorem qiy : isInt 99800 (call Tryz.prog gl (fun _ _ _ _ _ => none) 40 189 [.lit (.int .i64 2273), .lit (.int .i64 3)] h0 1000 1000) = true := by kernel_rfl
theorem qiz : Sim.Con (Sim.EG Sim.glT) 189 [Sim.G.int 2273, Sim.G.int 3] (Sim.G.int 99800) := by
 obtain ⟨h', c', h⟩ := j7 qiy
 exact zx (vs := [.int .i64 2273, .int .i64 3]) j5 jj (by decide) (xu (by decide)) h
theorem qi0 : isInt 9220 (call Tryz.prog gl (fun _ _ _ _ _ => none) 40 189 [.lit (.int .i64 2025), .lit (.int .i64 3)] h0 1000 1000) = true := by kernel_rfl
theorem qi1 : Sim.Con (Sim.EG Sim.glT) 189 [Sim.G.int 2025, Sim.G.int 3] (Sim.G.int 9220) := by
 obtain ⟨h', c', h⟩ := j7 qi0
 exact zx (vs := [.int .i64 2025, .int .i64 3]) j5 jj (by decide) (xu (by decide)) h
theorem qg8 : isInt 9430 (call Tryz.prog gl (fun _ _ _ _ _ => none) 40 189 [.lit (.int .i64 2025), .lit (.int .i64 10)] h0 1000 1000) = true := by kernel_rfl
theorem qg9 : Sim.Con (Sim.EG Sim.glT) 189 [Sim.G.int 2025, Sim.G.int 10] (Sim.G.int 9430) := by
 obtain ⟨h', c', h⟩ := j7 qg8
 exact zx (vs := [.int .i64 2025, .int .i64 10]) j5 jj (by decide) (xu (by decide)) h
theorem qi2 : isInt 9584 (call Tryz.prog gl (fun _ _ _ _ _ => none) 40 189 [.lit (.int .i64 2026), .lit (.int .i64 3)] h0 1000 1000) = true := by kernel_rfl
theorem qi3 : Sim.Con (Sim.EG Sim.glT) 189 [Sim.G.int 2026, Sim.G.int 3] (Sim.G.int 9584) := by
 obtain ⟨h', c', h⟩ := j7 qi2
 exact zx (vs := [.int .i64 2026, .int .i64 3]) j5 jj (by decide) (xu (by decide)) h
theorem qha : isInt 9794 (call Tryz.prog gl (fun _ _ _ _ _ => none) 40 189 [.lit (.int .i64 2026), .lit (.int .i64 10)] h0 1000 1000) = true := by kernel_rfl
theorem qhb : Sim.Con (Sim.EG Sim.glT) 189 [Sim.G.int 2026, Sim.G.int 10] (Sim.G.int 9794) := by
 obtain ⟨h', c', h⟩ := j7 qha
 exact zx (vs := [.int .i64 2026, .int .i64 10]) j5 jj (by decide) (xu (by decide)) h
end Go.Ex
namespace Go.Ex
open Go.Proofs
noncomputable def tab189 (y m : Int) : Option Int :=
 bif decide (y = 2000) && decide (m = 3) then some 85 else
 bif decide (y = 2273) && decide (m = 3) then some 99800 else
 bif decide (y = 2025) && decide (m = 3) then some 9220 else
 bif decide (y = 2025) && decide (m = 10) then some 9430 else
 bif decide (y = 2026) && decide (m = 3) then some 9584 else
 bif decide (y = 2026) && decide (m = 10) then some 9794 else none
theorem qnr {y m n : Int} (h : tab189 y m = some n) : Sim.Con (Sim.EG Sim.glT) 189 [Sim.G.int y, Sim.G.int m] (Sim.G.int n) := by
 unfold tab189 at h
 simp only [cond_eq_ite, Bool.and_eq_true, decide_eq_true_eq] at h
 split at h
 ·rename_i e; cases h; rw [e.1, e.2]; exact qix
 split at h
 ·rename_i e; cases h; rw [e.1, e.2]; exact qiz
 split at h
 ·rename_i e; cases h; rw [e.1, e.2]; exact qi1
 split at h
 ·rename_i e; cases h; rw [e.1, e.2]; exact qg9
 split at h
 ·rename_i e; cases h; rw [e.1, e.2]; exact qi3
 split at h
 ·rename_i e; cases h; rw [e.1, e.2]; exact qhb
 ·cases h
noncomputable def orc147 (s : ByteArray) (h : H) (c : Nat) : Option (V × H × Nat) := bif Sim.s147 s then some (.lit (.bool true), h, c) else some (.lit (.bool false), h, c)
theorem qhc (s : ByteArray) (h : H) (c : Nat) : orc147 s h c = some (.lit (.bool (Sim.s147 s)), h, c) := by
 unfold orc147; cases Sim.s147 s <;> rfl
noncomputable def orc189 (y m : Int) (h : H) (c : Nat) : Option (V × H × Nat) := match tab189 y m with
 | some n => some (.lit (.int .i64 n), h, c)
 | none => none
noncomputable def orc : Orc := fun f xs h c _ => match f, xs with
 | 69, [.agg [.lit (.int .i64 a), .lit (.int .i64 b), .lit (.int .i64 m)]] => orc69 a b m h c
 | 103, [.lit (.string nm), .lit (.string kd), .agg [.lit (.int .i64 a), .lit (.int .i64 b), .lit (.int .i64 m)], .lit (.int .i64 x)] => orc103 nm kd a b m x h c
 | 147, [.lit (.string s)] => orc147 s h c
 | 189, [.lit (.int .i64 y), .lit (.int .i64 m)] => orc189 y m h c
 | _, _ => none
theorem qv6 : OrcK orc := by
 intro f xs h c ro v h' c' e hc
 unfold orc at e
 split at e
 ·exact qsi e
 ·exact qpi e
 ·rw [qhc] at e; cases e; exact ⟨fun _ _ _ => rfl, Nat.le_refl _, hc⟩
 ·unfold orc189 at e
  split at e
  ·cases e; exact ⟨fun _ _ _ => rfl, Nat.le_refl _, hc⟩
  ·cases e
 ·cases e
theorem qt2 : OrcOk (Sim.EG Sim.glT).P gl (GWof (Sim.EG Sim.glT)) orc := by
 intro f xs h c ro v h' c' e
 dsimp only at e
 cases ho : orc f xs h c ro with
 | none => rw [ho] at e; cases e
 | some r =>
  rw [ho] at e
  cases e
  unfold orc at ho
  split at ho
  ·exact ⟨⟨_, Tryz.func69, by kernel_rfl, by kernel_rfl⟩, fun w0 ρ w args _ hr hd hc _ hv => qph ho hr hd hv⟩
  ·exact ⟨⟨_, Tryz.func103, by kernel_rfl, by kernel_rfl⟩, fun w0 ρ w args _ hr hd hc _ hv => qnq ho hr hd hv⟩
  ·rename_i s
   rw [qhc] at ho; cases ho
   exact qf5 (E := Sim.EG Sim.glT) (vs := [.string s]) ⟨_, Tryz.func147, by kernel_rfl, by kernel_rfl⟩ (Sim.c147 s)
  ·rename_i y m
   unfold orc189 at ho
   split at ho
   ·rename_i n hn
    cases ho
    exact qf5 (E := Sim.EG Sim.glT) (vs := [.int .i64 y, .int .i64 m]) ⟨_, Tryz.func189, by kernel_rfl, by kernel_rfl⟩ (qnr hn)
   ·cases ho
  ·cases ho
end Go.Ex
namespace Go.Ex
open Go.Proofs
def lenT (n : Int) : Int := bif decide (n ≤ 0) then 0 else bif decide (n ≤ 1) then 1 else bif decide (n ≤ 3) then 2 else bif decide (n ≤ 7) then 3 else 4
theorem qup : isInt 0 (call Tryz.prog gl (fun _ _ _ _ _ => none) 40 182 [.lit (.int .u64 0)] h0 1000 1000) = true := by kernel_rfl
theorem quq : Sim.Con (Sim.EG Sim.glT) 182 [Sim.G.lit (.int .u64 0)] (Sim.G.int 0) := by
 obtain ⟨h', c', h⟩ := j7 qup
 exact zx (vs := [.int .u64 0]) j5 jj (by decide) (xu (by decide)) h
theorem qur : isInt 1 (call Tryz.prog gl (fun _ _ _ _ _ => none) 40 182 [.lit (.int .u64 1)] h0 1000 1000) = true := by kernel_rfl
theorem qus : Sim.Con (Sim.EG Sim.glT) 182 [Sim.G.lit (.int .u64 1)] (Sim.G.int 1) := by
 obtain ⟨h', c', h⟩ := j7 qur
 exact zx (vs := [.int .u64 1]) j5 jj (by decide) (xu (by decide)) h
theorem qut : isInt 2 (call Tryz.prog gl (fun _ _ _ _ _ => none) 40 182 [.lit (.int .u64 2)] h0 1000 1000) = true := by kernel_rfl
theorem quu : Sim.Con (Sim.EG Sim.glT) 182 [Sim.G.lit (.int .u64 2)] (Sim.G.int 2) := by
 obtain ⟨h', c', h⟩ := j7 qut
 exact zx (vs := [.int .u64 2]) j5 jj (by decide) (xu (by decide)) h
theorem quv : isInt 2 (call Tryz.prog gl (fun _ _ _ _ _ => none) 40 182 [.lit (.int .u64 3)] h0 1000 1000) = true := by kernel_rfl
theorem quw : Sim.Con (Sim.EG Sim.glT) 182 [Sim.G.lit (.int .u64 3)] (Sim.G.int 2) := by
 obtain ⟨h', c', h⟩ := j7 quv
 exact zx (vs := [.int .u64 3]) j5 jj (by decide) (xu (by decide)) h
theorem qux : isInt 3 (call Tryz.prog gl (fun _ _ _ _ _ => none) 40 182 [.lit (.int .u64 4)] h0 1000 1000) = true := by kernel_rfl
theorem quy : Sim.Con (Sim.EG Sim.glT) 182 [Sim.G.lit (.int .u64 4)] (Sim.G.int 3) := by
 obtain ⟨h', c', h⟩ := j7 qux
 exact zx (vs := [.int .u64 4]) j5 jj (by decide) (xu (by decide)) h
theorem quz : isInt 3 (call Tryz.prog gl (fun _ _ _ _ _ => none) 40 182 [.lit (.int .u64 5)] h0 1000 1000) = true := by kernel_rfl
theorem qu0 : Sim.Con (Sim.EG Sim.glT) 182 [Sim.G.lit (.int .u64 5)] (Sim.G.int 3) := by
 obtain ⟨h', c', h⟩ := j7 quz
 exact zx (vs := [.int .u64 5]) j5 jj (by decide) (xu (by decide)) h
theorem qu1 : isInt 3 (call Tryz.prog gl (fun _ _ _ _ _ => none) 40 182 [.lit (.int .u64 6)] h0 1000 1000) = true := by kernel_rfl
theorem qu2 : Sim.Con (Sim.EG Sim.glT) 182 [Sim.G.lit (.int .u64 6)] (Sim.G.int 3) := by
 obtain ⟨h', c', h⟩ := j7 qu1
 exact zx (vs := [.int .u64 6]) j5 jj (by decide) (xu (by decide)) h
theorem qu3 : isInt 3 (call Tryz.prog gl (fun _ _ _ _ _ => none) 40 182 [.lit (.int .u64 7)] h0 1000 1000) = true := by kernel_rfl
theorem qu4 : Sim.Con (Sim.EG Sim.glT) 182 [Sim.G.lit (.int .u64 7)] (Sim.G.int 3) := by
 obtain ⟨h', c', h⟩ := j7 qu3
 exact zx (vs := [.int .u64 7]) j5 jj (by decide) (xu (by decide)) h
theorem qu5 : isInt 4 (call Tryz.prog gl (fun _ _ _ _ _ => none) 40 182 [.lit (.int .u64 8)] h0 1000 1000) = true := by kernel_rfl
theorem qu6 : Sim.Con (Sim.EG Sim.glT) 182 [Sim.G.lit (.int .u64 8)] (Sim.G.int 4) := by
 obtain ⟨h', c', h⟩ := j7 qu5
 exact zx (vs := [.int .u64 8]) j5 jj (by decide) (xu (by decide)) h
theorem qu7 : isInt 4 (call Tryz.prog gl (fun _ _ _ _ _ => none) 40 182 [.lit (.int .u64 9)] h0 1000 1000) = true := by kernel_rfl
theorem qu8 : Sim.Con (Sim.EG Sim.glT) 182 [Sim.G.lit (.int .u64 9)] (Sim.G.int 4) := by
 obtain ⟨h', c', h⟩ := j7 qu7
 exact zx (vs := [.int .u64 9]) j5 jj (by decide) (xu (by decide)) h
theorem qsj : isInt 4 (call Tryz.prog gl (fun _ _ _ _ _ => none) 40 182 [.lit (.int .u64 10)] h0 1000 1000) = true := by kernel_rfl
theorem qsk : Sim.Con (Sim.EG Sim.glT) 182 [Sim.G.lit (.int .u64 10)] (Sim.G.int 4) := by
 obtain ⟨h', c', h⟩ := j7 qsj
 exact zx (vs := [.int .u64 10]) j5 jj (by decide) (xu (by decide)) h
theorem qsl : isInt 4 (call Tryz.prog gl (fun _ _ _ _ _ => none) 40 182 [.lit (.int .u64 11)] h0 1000 1000) = true := by kernel_rfl
theorem qsm : Sim.Con (Sim.EG Sim.glT) 182 [Sim.G.lit (.int .u64 11)] (Sim.G.int 4) := by
 obtain ⟨h', c', h⟩ := j7 qsl
 exact zx (vs := [.int .u64 11]) j5 jj (by decide) (xu (by decide)) h
theorem qsn : isInt 4 (call Tryz.prog gl (fun _ _ _ _ _ => none) 40 182 [.lit (.int .u64 12)] h0 1000 1000) = true := by kernel_rfl
theorem qso : Sim.Con (Sim.EG Sim.glT) 182 [Sim.G.lit (.int .u64 12)] (Sim.G.int 4) := by
 obtain ⟨h', c', h⟩ := j7 qsn
 exact zx (vs := [.int .u64 12]) j5 jj (by decide) (xu (by decide)) h
end Go.Ex
namespace Go.Sim
open Go.Proofs Go.Ex
def lenU (n : Int) : Int := lenT n
theorem c182 (n : Int) (h : 0 ≤ n ∧ n ≤ 12) : Con (EG glT) 182 [G.lit (.int .u64 n)] (G.int (lenU n)) := by
 have : n = 0 ∨ n = 1 ∨ n = 2 ∨ n = 3 ∨ n = 4 ∨ n = 5 ∨ n = 6 ∨ n = 7 ∨ n = 8 ∨ n = 9 ∨ n = 10 ∨ n = 11 ∨ n = 12 := by omega
 rcases this with rfl | rfl | rfl | rfl | rfl | rfl | rfl | rfl | rfl | rfl | rfl | rfl | rfl
 ·exact quq
 ·exact qus
 ·exact quu
 ·exact quw
 ·exact quy
 ·exact qu0
 ·exact qu2
 ·exact qu4
 ·exact qu6
 ·exact qu8
 ·exact qsk
 ·exact qsm
 ·exact qso
theorem qu9 (n : Int) (h : 0 ≤ n ∧ n ≤ 12) : Con (EG glT) 182 [G.lit (.int .u64 (IntKind.u64.wrap n))] (G.int (lenU n)) := by
 have : IntKind.u64.wrap n = n := by
  have : n = 0 ∨ n = 1 ∨ n = 2 ∨ n = 3 ∨ n = 4 ∨ n = 5 ∨ n = 6 ∨ n = 7 ∨ n = 8 ∨ n = 9 ∨ n = 10 ∨ n = 11 ∨ n = 12 := by omega
  rcases this with rfl | rfl | rfl | rfl | rfl | rfl | rfl | rfl | rfl | rfl | rfl | rfl | rfl <;> decide
 rw [this]; exact c182 n h
end Go.Sim
