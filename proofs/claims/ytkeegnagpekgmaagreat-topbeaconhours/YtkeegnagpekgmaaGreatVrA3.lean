/-
  What is proved: lemmas and contracts of functions on the way to the law topBeaconHours (part 3).
-/
import Derived.Test.YtkeegnagpekgmaaGreatVrA2
set_option linter.unusedSectionVars false
set_option linter.unusedSimpArgs false
set_option linter.unusedVariables false
set_option linter.unnecessarySimpa false
set_option linter.deprecated false
namespace Go.Ex
open Go.Sim (tyK fieldK zeroK placesK appK flatK setAt run_isAgg run_loadVar_agg run_loadVar_one run_storeAt run_alloc run_box run_fieldAt fieldK_spec toList_inj appK_spec run_storeCells)
section
variable {P : Program} {w0 : World} {ro c : Nat} {ρ : Rh} {h : H} {w : World}
theorem slTy_ok {t e : TypeId} (h : slTy P t = some e) : P.underlying t = some (.slice e) := by
 unfold slTy at h
 split at h
 ·rename_i he; simp at h; subst h; exact he
 ·cases h
theorem zeros_list {z : Array Value} {k : Nat} (hk : z.size = k) : ∀ n, (List.range (n * k)).map (fun i => z[i % k]!) = (List.replicate n z.toList).flatten
 | 0 => by simp
 | n + 1 => by
  rw [Nat.add_mul, Nat.one_mul, Nat.add_comm, List.range_add, List.map_append, List.replicate_succ, List.flatten_cons]
  congr 1
  ·apply List.ext_getElem?
   intro i;simp only [List.getElem?_map]
   rcases Nat.lt_or_ge i k with h | h
   ·rw [List.getElem?_range h];simp only [Option.map_some, Nat.mod_eq_of_lt h];rw [getElem!_pos z i (by omega), List.getElem?_eq_getElem (by simp; omega)]
    simp
   ·rw [List.getElem?_eq_none (by simpa using h), List.getElem?_eq_none (by simp; omega)]
    rfl
  ·rw [← zeros_list hk n, List.map_map]
   apply List.map_congr_left
   intro i _
   simp [Nat.add_mod_left]
theorem zeros_vc {zs : List Value} (h1 : zs.all Value.oneCell' = true) : ∀ n, VC w ρ (zerosOf zs n) (List.replicate n zs).flatten
 | 0 => by simpa [zerosOf] using VC.nil
 | n + 1 => by
  rw [List.replicate_succ, List.flatten_cons];exact (VC.lits (List.all_eq_true.1 h1)).append (zeros_vc h1 n)
theorem g_buildSlice (hr : Rel w0 ρ h w) (hd : Dom ρ c) {t : TypeId} {n : Nat} {ps : List (Nat × V)} {us : Array (Nat × Value)} (hp : PartsR w ρ ps us.toList) : Good P w0 ro c ρ w (vS (Instr.buildSlice t n us)) (oBuildSlice P h c t n ps) := by
 unfold oBuildSlice
 cases he : slTy P t with
 | none => trivial
 | some e =>
  have hu := slTy_ok he;dsimp only
  split
  ·rename_i k b zs hty hz
   cases hc : (zs.all Value.oneCell' && Nat.beq zs.length (k + 1) && Nat.ble (n * (k + 1)) 16777216) with
   | false => trivial
   | true =>
    rw [cond_true];simp only [Bool.and_eq_true] at hc;obtain ⟨⟨c1, c2⟩, c3⟩ := hc;have c2 := Nat.eq_of_beq_eq_true c2;have c3 := Nat.le_of_ble_eq_true c3;obtain ⟨i, z, hi, hz', hzs⟩ := zeroK_spec hz
    have hzsz : z.cells.size = k + 1 := by rw [← Array.length_toList, hzs, c2]
    cases hf : fillV (fun i => some (i * (k + 1), k + 1)) (zerosOf zs n) ps with
    | none => trivial
    | some l =>
     by_cases hn : n = 0
     ·subst hn;obtain ⟨vout, g1, g2⟩ := fillV_ok (w := w) (ρ := ρ) (ev := fun _ _ => True) (vcells := #[]) hp.1 hp.2 (by simpa [zerosOf] using VC.nil) hf;refine good_new (u := .slice (some ⟨w.heap.size, 0, none⟩) 0 0) (o := .cells vout e) hr hd ?_ (br_cells hd g2) (.sl (l := ⟨w.heap.size, 0⟩) (upd_self _) (Nat.le_refl _) (Nat.zero_le _) rfl (.inl rfl));simp only [Instr.buildSlice, Sem.run_bind, run_underlying hu, Result.andThen_ok, Sim.run_sizeOf hty];rw [if_neg (by omega)];simp only [Nat.zero_mul, if_true, Sem.run_bind, Sem.run_pure, Result.andThen_ok]
      have : (Array.range 0).map (fun x => (#[] : Array Value)[x % (#[] : Array Value).size]!) = #[] := by simp
      rw [this, g1]
      simp [newRow]
     ·have hne : ¬ (n * (k + 1) = 0) := by
       intro h0
       rcases Nat.mul_eq_zero.1 h0 with h0 | h0 <;> omega
      have hzl : ((Array.range (n * (k + 1))).map (fun x => z.cells[x % z.cells.size]!)).toList = (List.replicate n zs).flatten := by
       rw [← hzs, ← zeros_list hzsz n, hzsz]
       simp
      obtain ⟨vout, g1, g2⟩ := fillV_ok (w := w) (ρ := ρ) (ev := fun _ _ => True) (vcells := (Array.range (n * (k + 1))).map (fun x => z.cells[x % z.cells.size]!)) hp.1 hp.2 (by rw [hzl]; exact zeros_vc c1 n) hf
      have hml : n ≤ maxLen := by
       have : n ≤ n * (k + 1) := Nat.le_mul_of_pos_right _ (Nat.succ_pos k);exact Nat.le_trans (Nat.le_trans this c3) (by decide)
      have hsz : vout.size = n * (k + 1) := by
       have h1 := fillV_len hf;have h2 := g2.length;rw [Array.length_toList, h1] at h2;rw [h2];have := (zeros_vc (w := w) (ρ := ρ) c1 n).length;rw [← this]
       simp [c2]
      refine good_new (u := .slice (some ⟨w.heap.size, 0, none⟩) n n) (o := .cells vout e) hr hd ?_ (br_cells hd g2) (.sl (l := ⟨w.heap.size, 0⟩) (p := 0) (upd_self _) (Nat.le_refl _) hml rfl (.inr ⟨rfl, vout, e, _, heap_alloc_new w (.cells vout e), by omega⟩));simp only [Instr.buildSlice, Sem.run_bind, run_underlying hu, Result.andThen_ok, Sim.run_sizeOf hty];rw [if_neg (show ¬ (n * (k + 1) > 2 ^ 24) from Nat.not_lt.2 c3)];simp only [Sem.run_bind, Sem.run_pure, Result.andThen_ok, if_neg hne, run_zeroValue hi hz', g1]
      simp [newRow]
  ·trivial
where
 fillV_len {place : Nat → Option (Nat × Nat)} : ∀ {ps : List (Nat × V)} {cells out : List V}, fillV place cells ps = some out → out.length = cells.length := by
  intro ps
  induction ps with
  | nil => intro cells out h; simp only [fillV, Option.some.injEq] at h; rw [h]
  | cons p ps ih =>
   obtain ⟨i, v⟩ := p;intro cells out h;simp only [fillV] at h
   split at h
   ·cases h
   ·rename_i off size hpl
    cases hc : (v.okC && Nat.beq v.cells.length size && Nat.ble (off + size) cells.length) with
    | false => rw [hc] at h; cases h
    | true =>
     rw [hc, cond_true] at h;simp only [Bool.and_eq_true] at hc;have c2 := Nat.eq_of_beq_eq_true hc.1.2;have c3 := Nat.le_of_ble_eq_true hc.2;rw [ih h];simp only [setAt, List.length_append, List.length_take, List.length_drop]
     omega
theorem zerosOf_len {zs : List Value} : ∀ n, (zerosOf zs n).length = n * zs.length
 | 0 => by simp [zerosOf]
 | n + 1 => by simp [zerosOf, zerosOf_len n, Nat.add_mul, Nat.add_comm]
theorem zerosOf_take {zs : List Value} : ∀ {n m : Nat}, n ≤ m → (zerosOf zs m).take (n * zs.length) = zerosOf zs n
 | 0, m, _ => by simp [zerosOf]
 | n + 1, 0, h => by omega
 | n + 1, m + 1, h => by
  have := zerosOf_take (zs := zs) (n := n) (m := m) (by omega);simp only [zerosOf];rw [show (n + 1) * zs.length = (zs.map V.lit).length + n * zs.length by rw [List.length_map, Nat.add_mul]; omega, List.take_length_add_append, this]
theorem g_makeSlice (hr : Rel w0 ρ h w) (hd : Dom ρ c) {t : TypeId} {l cp : V} {ul uc : Value} (hl : VR w ρ l ul) (hc : VR w ρ cp uc) : Good P w0 ro c ρ w (vS (Instr.makeSlice t ul uc)) (oMakeSlice P h c t l cp) := by
 unfold oMakeSlice
 split
 ·rename_i e n m he
  have := hl.lit_inv; subst this;have := hc.lit_inv; subst this;have hu := slTy_ok he
  split
  ·rename_i k b zs hty hz
   cases hcnd : (Nat.beq n m && zs.all Value.oneCell' && Nat.beq zs.length (k + 1) && Nat.ble n 65536 && byOk P e) with
   | false =>
    rw [cond_false]
    cases hcnd : (Nat.ble n m && zs.all Value.oneCell' && Nat.beq zs.length (k + 1) && Nat.ble m 65536 && byOk P e) with
    | false => trivial
    | true =>
     simp only [Bool.and_eq_true] at hcnd;obtain ⟨⟨⟨⟨c1, c2⟩, c3⟩, c4⟩, c5⟩ := hcnd;have c1 := Nat.le_of_ble_eq_true c1;have c3 := Nat.eq_of_beq_eq_true c3;have c4 := Nat.le_of_ble_eq_true c4;obtain ⟨i, z, hi, hz', hzs⟩ := zeroK_spec hz
     have hby : i.bytes ≤ 1048576 ∧ i.size ≤ 256 := by
      unfold byOk at c5; rw [hi] at c5;simp only [Bool.and_eq_true] at c5;exact ⟨Nat.le_of_ble_eq_true c5.1, Nat.le_of_ble_eq_true c5.2⟩
     have hzsz : z.cells.size = k + 1 := by rw [← Array.length_toList, hzs, c3]
     have hsz : i.size = k + 1 := by
      unfold tyK at hty;rw [hi] at hty
      split at hty
      ·rename_i d1 d2 h1 h2
       simp only [Option.some.injEq, Prod.mk.injEq] at h1 hty;rw [h1]; exact hty.1
      ·cases hty
     rw [cond_true, forceN_eq]
     have hbm : (i.bytes : Int) * (m : Int) ≤ 281474976710656 := by
      have : i.bytes * m ≤ 1048576 * 65536 := Nat.mul_le_mul hby.1 c4;have h2 : ((i.bytes * m : Nat) : Int) ≤ ((1048576 * 65536 : Nat) : Int) := Int.ofNat_le.2 this;rw [Int.natCast_mul] at h2
      omega
     have hcl : m * i.size ≤ 16777216 := Nat.le_trans (Nat.mul_le_mul c4 hby.2) (by decide);have hrun := run_makeSlice (P := P) (w := w) t e i z hu hi hz' .i64 .i64 (Int.ofNat n) (Int.ofNat m) (Int.natCast_nonneg n) (Int.ofNat_le.2 c1) hcl hbm (by show (m : Int) ≤ _; omega)
     have hzl : (madeCells z.cells (m * i.size)).toList = (List.replicate m zs).flatten := by
      rw [← hzs, ← zeros_list hzsz m, hsz]
      simp [madeCells, hzsz]
     have hvc : VC w ρ (zerosOf zs m) (madeCells z.cells (m * i.size)).toList := by rw [hzl]; exact zeros_vc c2 m
     refine good_new (u := .slice (some ⟨w.heap.size, 0, none⟩) n m) (o := .cells (madeCells z.cells (m * i.size)) e) hr hd hrun ⟨_, e, heap_alloc_new w _, ?_, ?_⟩ (.sl (l := ⟨w.heap.size, 0⟩) (p := 0) (upd_self _) c1 (Nat.le_trans c4 (by decide)) rfl (.inr ⟨rfl, _, e, _, heap_alloc_new w (.cells (madeCells z.cells (m * i.size)) e), ?_⟩))
     ·rw [zerosOf_len, size_madeCells, hsz, c3, Nat.zero_add]; exact Nat.mul_le_mul_right _ c1
     ·have h3 := new_vc (o := .cells (madeCells z.cells (m * i.size)) e) hd (hvc.take (n * zs.length));rw [zerosOf_take c1] at h3;rw [List.drop_zero, zerosOf_len];exact h3
     ·rw [size_madeCells, hsz]; omega
   | true =>
    simp only [Bool.and_eq_true] at hcnd;obtain ⟨⟨⟨⟨c1, c2⟩, c3⟩, c4⟩, c5⟩ := hcnd;have c1 := Nat.eq_of_beq_eq_true c1;subst c1;have c3 := Nat.eq_of_beq_eq_true c3;have c4 := Nat.le_of_ble_eq_true c4;obtain ⟨i, z, hi, hz', hzs⟩ := zeroK_spec hz
    have hby : i.bytes ≤ 1048576 ∧ i.size ≤ 256 := by
     unfold byOk at c5; rw [hi] at c5;simp only [Bool.and_eq_true] at c5;exact ⟨Nat.le_of_ble_eq_true c5.1, Nat.le_of_ble_eq_true c5.2⟩
    have hzsz : z.cells.size = k + 1 := by rw [← Array.length_toList, hzs, c3]
    have hsz : i.size = k + 1 := by
     unfold tyK at hty;rw [hi] at hty
     split at hty
     ·rename_i d1 d2 h1 h2
      simp only [Option.some.injEq, Prod.mk.injEq] at h1 hty;rw [h1]; exact hty.1
     ·cases hty
    rw [cond_true, forceN_eq]
    have hbm : (i.bytes : Int) * (n : Int) ≤ 281474976710656 := by
     have : i.bytes * n ≤ 1048576 * 65536 := Nat.mul_le_mul hby.1 c4;have h2 : ((i.bytes * n : Nat) : Int) ≤ ((1048576 * 65536 : Nat) : Int) := Int.ofNat_le.2 this;rw [Int.natCast_mul] at h2
     omega
    have hcl : n * i.size ≤ 16777216 := Nat.le_trans (Nat.mul_le_mul c4 hby.2) (by decide);have hrun := run_makeSlice (P := P) (w := w) t e i z hu hi hz' .i64 .i64 (Int.ofNat n) (Int.ofNat n) (Int.natCast_nonneg n) (Int.le_refl _) hcl hbm (by show (n : Int) ≤ _; omega)
    have hzl : (madeCells z.cells (n * i.size)).toList = (List.replicate n zs).flatten := by
     rw [← hzs, ← zeros_list hzsz n, hsz]
     simp [madeCells, hzsz]
    refine good_new (u := .slice (some ⟨w.heap.size, 0, none⟩) n n) (o := .cells (madeCells z.cells (n * i.size)) e) hr hd hrun (br_cells hd (by rw [hzl]; exact zeros_vc c2 n)) (.sl (l := ⟨w.heap.size, 0⟩) (p := 0) (upd_self _) (Nat.le_refl _) (Nat.le_trans c4 (by decide)) rfl (.inr ⟨rfl, _, e, _, heap_alloc_new w (.cells (madeCells z.cells (n * i.size)) e), ?_⟩));rw [size_madeCells, hsz]; omega
  ·trivial
 ·trivial
end
end Go.Ex
namespace Go.Ex
open Go.Sim (tyK fieldK zeroK placesK appK flatK setAt run_isAgg run_loadVar_agg run_loadVar_one run_storeAt run_alloc run_box run_fieldAt fieldK_spec toList_inj appK_spec run_storeCells)
section
variable {P : Program} {w0 : World} {ro c : Nat} {ρ : Rh} {h : H} {w : World}
inductive OR (w : World) (ρ : Rh) : Option V → Option Value → Prop
  | none : OR w ρ none none
  | some {v : V} {u : Value} (h : VR w ρ v u) : OR w ρ (some v) (some u)
theorem bound_some {v : V} {u : Value} {d tp n : Nat} (hv : VR w ρ v u) (hb : bound (some v) d tp = some n) : ∃ k, u = .int k (n : Int) ∧ n ≤ tp := by
  unfold bound at hb
  dsimp only at hb
  cases hi : intOf v with
  | none => rw [hi] at hb; cases hb
  | some z =>
    rw [hi] at hb
    cases z with
    | negSucc m => cases hb
    | ofNat m =>
      dsimp only at hb
      obtain ⟨k, rfl⟩ := intOf_ok hv hi
      cases hc : Nat.ble m tp with
      | false => rw [hc] at hb; cases hb
      | true =>
        rw [hc, cond_true, forceN_eq] at hb
        simp only [Option.some.injEq] at hb
        subst hb
        exact ⟨k, rfl, Nat.le_of_ble_eq_true hc⟩
theorem run_bound {k : IntKind} {n tp : Nat} (hn : n ≤ tp) (code : BoundsCode) : (Instr.sliceBound (.int k (n : Int)) tp code).run P w = .ok n w := by
  have : (0 : Int) ≤ (n : Int) ∧ (n : Int) ≤ (tp : Int) := by omega
  simp [Instr.sliceBound, asIntOf, this]
theorem run_bounds {isS : Bool} {len cap a b : Nat} {lo hi : Option V} {lo' hi' : Option Value} (hlo : OR w ρ lo lo') (hhi : OR w ρ hi hi') (hlc : len ≤ cap) {tp : Nat} (htp : tp ≤ cap) (hb : bound hi len tp = some b) (ha : bound lo 0 b = some a) :
    (Instr.sliceBounds isS len cap lo' hi' none).run P w = .ok (a, b, cap) w ∧ a ≤ b ∧ b ≤ cap := by
  have key : (∃ k, hi' = some (.int k (b : Int)) ∧ b ≤ tp) ∨ (hi' = none ∧ b = len) := by
    cases hhi with
    | none => right; simp [bound] at hb; exact ⟨rfl, hb.symm⟩
    | some hv => left; obtain ⟨k, h1, h2⟩ := bound_some hv hb; exact ⟨k, by rw [h1], h2⟩
  have key2 : (∃ k, lo' = some (.int k (a : Int)) ∧ a ≤ b) ∨ (lo' = none ∧ a = 0) := by
    cases hlo with
    | none => right; simp [bound] at ha; exact ⟨rfl, ha.symm⟩
    | some hv => left; obtain ⟨k, h1, h2⟩ := bound_some hv ha; exact ⟨k, by rw [h1], h2⟩
  have hbl : b ≤ cap := by rcases key with ⟨_, _, h⟩ | ⟨_, h⟩ <;> omega
  have hab : a ≤ b := by rcases key2 with ⟨_, _, h⟩ | ⟨_, h⟩ <;> omega
  refine ⟨?_, hab, hbl⟩
  rcases key with ⟨k, rfl, _⟩ | ⟨rfl, rfl⟩ <;> rcases key2 with ⟨k2, rfl, _⟩ | ⟨rfl, rfl⟩ <;>
    simp [Instr.sliceBounds, run_bound (P := P) (w := w) hab, run_bound (P := P) (w := w) (show b ≤ cap by omega)]
theorem run_bounds3 {isS : Bool} {len cap a b m : Nat} {lo : Option V} {hi mx : V} {lo' : Option Value} {hi' mx' : Value} (hlo : OR w ρ lo lo') (hhi : VR w ρ hi hi') (hmx : VR w ρ mx mx') (hlc : len ≤ cap) (hm : bound (some mx) 0 len = some m) (hb : bound (some hi) len m = some b) (ha : bound lo 0 b = some a) :
    (Instr.sliceBounds isS len cap lo' (some hi') (some mx')).run P w = .ok (a, b, m) w ∧ a ≤ b ∧ b ≤ m ∧ m ≤ len := by
  obtain ⟨k1, rfl, h1⟩ := bound_some hmx hm
  obtain ⟨k2, rfl, h2⟩ := bound_some hhi hb
  have key2 : (∃ k, lo' = some (.int k (a : Int)) ∧ a ≤ b) ∨ (lo' = none ∧ a = 0) := by
    cases hlo with
    | none => right; simp [bound] at ha; exact ⟨rfl, ha.symm⟩
    | some hv => left; obtain ⟨k, h1, h2⟩ := bound_some hv ha; exact ⟨k, by rw [h1], h2⟩
  have hab : a ≤ b := by rcases key2 with ⟨_, _, h⟩ | ⟨_, h⟩ <;> omega
  refine ⟨?_, hab, h2, h1⟩
  rcases key2 with ⟨k, rfl, _⟩ | ⟨rfl, rfl⟩ <;>
    simp [Instr.sliceBounds, run_bound (P := P) (w := w) hab, run_bound (P := P) (w := w) h2, run_bound (P := P) (w := w) (show m ≤ cap by omega)]
theorem ble_if (n m : Nat) : (bif Nat.ble n m then m else n) = max n m := by
  cases h : Nat.ble n m with
  | true => have := Nat.le_of_ble_eq_true h; rw [cond_true]; omega
  | false => have : ¬ n ≤ m := fun e => by rw [Nat.ble_eq_true_of_le e] at h; cases h
             rw [cond_false]; omega
theorem cp_lb {cap : Cp} {n m : Nat} (h1 : n ≤ m) (h : cap.Ok m) : cap.lb n ≤ m := by
  cases cap with
  | un => exact h1
  | ge k => simp only [Cp.Ok] at h; simp only [Cp.lb, ble_if]; omega
  | ex k => simp only [Cp.Ok] at h; simp only [Cp.lb]; omega
theorem cp_low {cap : Cp} {n m : Nat} (h1 : n ≤ m) (h : cap.Ok m) : (cap.low n).Ok m := by
  cases cap with
  | un => exact h1
  | ge k => simp only [Cp.Ok] at h; simp only [Cp.low, ble_if, Cp.Ok]; omega
  | ex k => exact h
theorem cp_sub {cap : Cp} {a m : Nat} (h : cap.Ok m) : (cap.sub a).Ok (m - a) := by
  cases cap with
  | un => trivial
  | ge k => simp only [Cp.Ok] at h; simp only [Cp.sub, Cp.Ok]; omega
  | ex k => simp only [Cp.Ok] at h; simp only [Cp.sub, Cp.Ok]; omega
theorem vr_cut {id off k cap' p : Nat} {l : Loc} (hl : ρ id = some l) (h2 : cap' ≤ maxLen) (h4 : cap' = 0 ∨ (p = l.o + off ∧ ∃ vs t fr, w.heap[l.b]? = some (.cells vs t fr) ∧ p + cap' * k ≤ vs.size)) {a b m : Nat} (hab : a ≤ b) (hbm : b ≤ m) (hm : m ≤ cap') (o : Cp) (ho : o.Ok (m - a)) :
    VR w ρ (.sl id (off + a * k) (b - a) k o) (.slice (if m = a then some ⟨l.b, p, none⟩ else some ⟨l.b, p + a * k, none⟩) (b - a) (m - a)) := by
  have hcap : m - a ≤ maxLen := Nat.le_trans (Nat.le_trans (Nat.sub_le _ _) hm) h2
  by_cases hma : m = a
  · rw [if_pos hma]
    exact .sl hl (by omega) hcap ho (.inl (by omega))
  · rw [if_neg hma]
    rcases h4 with h4 | ⟨h4, vs, t, fr, h5, h6⟩
    · omega
    · refine .sl hl (by omega) hcap ho (.inr ⟨by omega, vs, t, fr, h5, ?_⟩)
      have h7 : (m - a) * k + a * k = m * k := by rw [← Nat.add_mul]; congr 1; omega
      have h8 : m * k ≤ cap' * k := Nat.mul_le_mul_right _ hm
      omega
theorem g_slSl (hr : Rel w0 ρ h w) {t e : TypeId} {x : V} {u : Value} {lo hi mx : Option V} {lo' hi' mx' : Option Value} (hu : P.underlying t = some (.slice e)) (hx : VR w ρ x u) (hlo : OR w ρ lo lo') (hhi : OR w ρ hi hi') (hmx : OR w ρ mx mx') :
    Good P w0 ro c ρ w (vS (Instr.sliceAt t u lo' hi' mx')) (slS P h c e x lo hi mx) := by
  unfold slS
  split
  · rename_i k' b0 hty
    unfold slX
    split
    · rename_i id off n k cap
      cases hk : Nat.beq k k' with
      | false => trivial
      | true =>
        have hk := Nat.eq_of_beq_eq_true hk
        subst hk
        rw [cond_true]
        cases hx with
        | @sl _ _ _ _ cap' p _ l hl h1 h2 h3 h4 =>
          unfold slSl
          cases hmx with
          | none =>
            dsimp only
            unfold cutSl lowOf
            cases hb : bound hi n (cap.lb n) with
            | none => trivial
            | some b =>
              dsimp only
              cases ha : bound lo 0 b with
              | none => trivial
              | some a =>
                dsimp only
                rw [forceN_eq, forceN_eq]
                obtain ⟨g1, g2, g3⟩ := run_bounds (P := P) (isS := true) hlo hhi h1 (cp_lb h1 h3) hb ha
                refine good_same hr ?_ (vr_cut hl h2 h4 g2 g3 (Nat.le_refl _) _ ?_)
                · simp only [Instr.sliceAt, Instr.slice, Sem.run_bind, run_underlying hu, Result.andThen_ok, g1, Sim.run_sizeOf hty, Sem.run_pure, Option.map_some, addr_add]
                · exact cp_sub (cp_low h1 h3)
          | @some mv mu hm =>
            dsimp only
            cases hhi with
            | none => trivial
            | @some hv hu' hh =>
              cases hbm : bound (some mv) 0 n with
              | none => trivial
              | some m =>
                dsimp only
                unfold cutSl lowOf
                cases hb : bound (some hv) n m with
                | none => trivial
                | some b =>
                  dsimp only
                  cases ha : bound lo 0 b with
                  | none => trivial
                  | some a =>
                    dsimp only
                    rw [forceN_eq, forceN_eq]
                    obtain ⟨g1, g2, g3, g4⟩ := run_bounds3 (P := P) (isS := true) hlo hh hm h1 hbm hb ha
                    refine good_same hr ?_ (vr_cut hl h2 h4 g2 g3 (Nat.le_trans g4 h1) _ rfl)
                    simp only [Instr.sliceAt, Instr.slice, Sem.run_bind, run_underlying hu, Result.andThen_ok, g1, Sim.run_sizeOf hty, Sem.run_pure, Option.map_some, addr_add]
    · have := hx.lit_inv; subst this
      unfold slNil
      split
      · rename_i b a h1 h2
        cases hmx with
        | none =>
          have ha0 : bound lo 0 0 = some 0 := by
            cases hlo with
            | none => rfl
            | some hv =>
              obtain ⟨_, _, h⟩ := bound_some hv h2
              rw [Nat.le_zero.1 h] at h2; exact h2
          have hb0 : bound hi 0 0 = some 0 := by
            cases hhi with
            | none => rfl
            | some hv =>
              obtain ⟨_, _, h⟩ := bound_some hv h1
              rw [Nat.le_zero.1 h] at h1; exact h1
          obtain ⟨g1, _, _⟩ := run_bounds (P := P) (isS := true) hlo hhi (Nat.le_refl 0) (Nat.le_refl 0) hb0 ha0
          refine good_lit hr ?_
          simp only [Instr.sliceAt, Instr.slice, Sem.run_bind, run_underlying hu, Result.andThen_ok, g1, Sim.run_sizeOf hty, Sem.run_pure]
          rfl
      · trivial
    · trivial
  · trivial
theorem extract_list (s : ByteArray) (a b : Nat) : s.extract a b = ⟨⟨(s.data.toList.drop a).take (b - a)⟩⟩ := by
  rw [ByteArray.ext_iff, ByteArray.data_extract]
  apply Array.toList_inj.1
  simp [Array.toList_extract]
theorem g_slice (hr : Rel w0 ρ h w) {t : TypeId} {x : V} {u : Value} {lo hi mx : Option V} {lo' hi' mx' : Option Value} (hx : VR w ρ x u) (hlo : OR w ρ lo lo') (hhi : OR w ρ hi hi') (hmx : OR w ρ mx mx') :
    Good P w0 ro c ρ w (vS (Instr.sliceAt t u lo' hi' mx')) (oSlice P h c t x lo hi mx) := by
  unfold oSlice
  split
  · rename_i e hu; exact g_slSl hr hu hx hlo hhi hmx
  · rename_i hu
    split
    · have := hx.lit_inv; subst this
      rename_i s
      unfold slStr
      cases hmx with
      | some _ => trivial
      | none =>
        dsimp only
        unfold lowOf
        cases hb : bound hi s.data.toList.length s.data.toList.length with
        | none => trivial
        | some b =>
          dsimp only
          cases ha : bound lo 0 b with
          | none => trivial
          | some a =>
            dsimp only
            obtain ⟨g1, g2, g3⟩ := run_bounds (P := P) (isS := false) hlo hhi (Nat.le_refl _) (Nat.le_refl _) hb ha
            have hsz : s.size = s.data.toList.length := Array.length_toList.symm
            refine good_lit hr ?_
            simp only [Instr.sliceAt, Instr.slice, Sem.run_bind, run_underlying hu, Result.andThen_ok, hsz, g1, Sem.run_pure, Option.isSome_none, Bool.false_eq_true, if_false, extract_list]
    · trivial
  · rename_i n e hu
    split
    · rename_i id off
      unfold slArr
      split
      · rename_i k b0 lst hty hread
        cases hmx with
        | none =>
          cases hcnd : (Nat.ble (off + n * k) lst.length && Nat.ble n 65536) with
          | false => trivial
          | true =>
            rw [cond_true]
            simp only [Bool.and_eq_true] at hcnd
            have c1 := Nat.le_of_ble_eq_true hcnd.1
            have c2 := Nat.le_of_ble_eq_true hcnd.2
            cases hx with
            | @ptr _ _ l hl =>
              obtain ⟨us, ty, fr, k1, k2, k3⟩ := read_cells hr hl hread
              dsimp only
              unfold cutSl lowOf
              cases hb : bound hi n n with
              | none => trivial
              | some b =>
                dsimp only
                cases ha : bound lo 0 b with
                | none => trivial
                | some a =>
                  dsimp only
                  rw [forceN_eq, forceN_eq]
                  obtain ⟨g1, g2, g3⟩ := run_bounds (P := P) (isS := false) hlo hhi (Nat.le_refl n) (Nat.le_refl n) hb ha
                  refine good_same hr ?_ (vr_cut (p := l.o + off) (cap' := n) hl (Nat.le_trans c2 (by decide)) (.inr ⟨rfl, us, ty, fr, k1, by omega⟩) g2 g3 (Nat.le_refl _) _ rfl)
                  simp only [Instr.sliceAt, Sem.run_bind, run_underlying hu, Result.andThen_ok, g1, Sim.run_sizeOf hty, Sem.run_pure, Instr.sureAddr, addr_add]
                  split <;> rfl
      · trivial
    · trivial
  · trivial
end
end Go.Ex
namespace Go.Ex
open Go.Sim (tyK fieldK zeroK placesK appK flatK setAt run_isAgg run_loadVar_agg run_loadVar_one run_storeAt run_alloc run_box run_fieldAt fieldK_spec toList_inj appK_spec run_storeCells)
section
variable {P : Program} {w0 : World} {ro c : Nat} {ρ : Rh} {h : H} {w : World}
abbrev appS' (t ty : TypeId) (u v : Value) : Sem Value := Builtin.append_ #[t, t] ty #[u, v]
theorem slCells_ok (hr : Rel w0 ρ h w) {id off m : Nat} {l : Loc} {lst : List V} (hl : ρ id = some l) (hs : slCells h id off m = some lst) :
  ∃ us : List Value, VC w ρ lst us ∧ us.length = m ∧ ∀ j u, us[j]? = some u → w.cell? ⟨l.b, l.o + off + j, none⟩ = some u := by
 unfold slCells at hs
 split at hs
 ·rename_i all hb
  obtain ⟨us, t, fr, h1, h2, h3⟩ := read_cells hr hl hb
  cases hc : Nat.ble (off + m) all.length with
  | false => rw [hc] at hs; cases hs
  | true =>
   rw [hc, cond_true] at hs;simp only [Option.some.injEq] at hs;subst hs;have hle := Nat.le_of_ble_eq_true hc;have h4 := (h3.drop off).take m;refine ⟨_, h4, by rw [h4.length, List.length_take, List.length_drop]; omega, fun j u hj => ?_⟩
   have : ((us.toList.drop l.o).take all.length)[off + j]? = some u := by
    rw [List.getElem?_take] at hj
    split at hj
    ·rwa [List.getElem?_drop] at hj
    ·cases hj
   have := cells_get h1 this
   rwa [show l.o + (off + j) = l.o + off + j by omega] at this
 ·cases hs
theorem srcOf_ok (hr : Rel w0 ρ h w) {k m : Nat} {x : V} {v : Value} {lst : List V} (hx : VR w ρ x v) (hs : srcOf h k x = some (lst, m)) (hm : m ≠ 0) (hk : k ≠ 0) :
  ∃ news : List Value, VC w ρ lst news ∧ news.length = m * k ∧ ∃ b o cp, v = .slice (some ⟨b, o, none⟩) m cp ∧ ∀ j u, news[j]? = some u → w.cell? ⟨b, o + j, none⟩ = some u := by
 unfold srcOf at hs
 split at hs
 ·rename_i id off n k' cap
  cases hkk : Nat.beq k k' with
  | false => rw [hkk] at hs; cases hs
  | true =>
   have := Nat.eq_of_beq_eq_true hkk;subst this;rw [hkk, cond_true] at hs
   split at hs
   ·rename_i l' hl'
    simp only [Option.some.injEq, Prod.mk.injEq] at hs;obtain ⟨rfl, rfl⟩ := hs
    cases hx with
    | @sl _ _ _ _ cap' p _ l hl h1 h2 h3 h4 =>
     obtain ⟨us, g1, g2, g3⟩ := slCells_ok hr hl hl';refine ⟨us, g1, g2, l.b, p, cap', rfl, ?_⟩
     rcases h4 with h4 | ⟨h4, _⟩
     ·omega
     ·rw [h4]; exact g3
   ·cases hs
 ·cases hs
theorem vc_drew {l : List V} {us : List Value} (h : VC w ρ l us) : VC w.drew ρ l us := VC.mono (w := w) (w' := w.drew) (fun _ _ h => h) (fun _ vs _ fr h => ⟨vs, fr, h, rfl⟩) h
theorem upon_grown (hr : Rel w0 ρ h w) (hd : Dom ρ c) (hc : c < 1048576) {e : TypeId} {k nm cp : Nat} {lst : List V} {us rest : List Value} (hv : VC w ρ lst us) (hlen : us.length = nm * k) (h1 : nm ≤ cp) (h2 : cp ≤ maxLen) (h3 : us.length + rest.length = cp * k) :
  ∃ ρ', Rel w0 ρ' (hset h c (.cells lst)) (w.drew.alloc (.cells (us ++ rest).toArray e)) ∧ Ext ro c ρ w ρ' (w.drew.alloc (.cells (us ++ rest).toArray e)) (c + 1) ∧
   VR (w.drew.alloc (.cells (us ++ rest).toArray e)) ρ' (.sl c 0 nm k .un) (.slice (some ⟨w.heap.size, 0, none⟩) nm cp) := by
 have hr' := rel_drew hr;have hnew := heap_alloc_new w.drew (.cells (us ++ rest).toArray e);refine ⟨upd ρ c ⟨w.heap.size, 0⟩, rel_new hr' hd hc _ _ ⟨(us ++ rest).toArray, e, hnew, ?_, ?_⟩, (ext_drew (ro := ro)).trans (ext_new hd hc _), .sl (l := ⟨w.heap.size, 0⟩) (upd_self _) h1 h2 trivial (.inr ⟨rfl, _, e, _, hnew, ?_⟩)⟩
 ·have := hv.length; simp; omega
 ·have hl := hv.length;simp only [List.drop_zero];rw [← hl, List.take_left];exact new_vc hd (vc_drew hv)
 ·simp; omega
theorem g_append (hr : Rel w0 ρ h w) (hd : Dom ρ c) {t ty : TypeId} {s x : V} {u v : Value} (hs : VR w ρ s u) (hx : VR w ρ x v) : Good P w0 ro c ρ w (vS (appS' t ty u v)) (append P h c ro t s x) := by
 unfold append
 split
 ·trivial
 ·rename_i e k by_ ha
  obtain ⟨i, z, t1, t2, t3, t4, t5, t6⟩ := appK_spec ha
  cases hz : (Nat.beq k 0 || Nat.beq by_ 0) with
  | true => trivial
  | false =>
   rw [cond_false];simp only [Bool.or_eq_false_iff] at hz
   have hk0 : k ≠ 0 := fun h => by rw [h] at hz; exact absurd hz.1 (by decide)
   have hb0 : by_ ≠ 0 := fun h => by rw [h] at hz; exact absurd hz.2 (by decide)
   cases hsrc : srcOf h k x with
   | none => trivial
   | some lm =>
    obtain ⟨lst, m⟩ := lm;dsimp only
    cases hm : Nat.beq m 0 with
    | true => trivial
    | false =>
     rw [cond_false]
     have hm0 : m ≠ 0 := fun h => by rw [h] at hm; exact absurd hm (by decide)
     obtain ⟨news, n1, n2, b, o, cp, rfl, n3⟩ := srcOf_ok hr hx hsrc hm0 hk0
     have hadd : ∀ j u, news[j]? = some u → w.cell? ((⟨b, o, none⟩ : Addr).add j) = some u := fun j u hj => by rw [Addr.add_lit]; exact n3 j u hj
     unfold appS
     split
     ·-- the nil slice
      have := hs.lit_inv; subst this
      cases hsm : small m by_ with
      | false => trivial
      | true =>
       have hsm := Nat.le_of_ble_eq_true hsm;rw [cond_true, forceN_eq];unfold new
       cases hct : Nat.blt c top with
       | false => trivial
       | true =>
        rw [cond_true];have hmm : m ≤ m * by_ := Nat.le_mul_of_pos_right _ (by omega)
        have hml : m ≤ maxLen := by unfold maxLen; omega
        have hrun := run_append_nil (P := P) w t ty e i z t1 t2 t3 ⟨b, o, none⟩ m cp news (by rw [t4]; exact n2) hadd (by omega) (by omega) (by rw [t5]; omega);show UponE _ _ _ _ _ _ _ _ _;rw [run_vS hrun]
        have hz1 : (news.toArray ++ Builtin.zeroCells z.cells (grownCap w m 0 e - m)) = (news ++ (Builtin.zeroCells z.cells (grownCap w m 0 e - m)).toList).toArray := by simp
        rw [hz1];refine upon_grown hr hd (Nat.le_of_ble_eq_true hct) n1 n2 (grownCap_ge _ _ _ _) (grownCap_le_maxLen _ _ _ _ hml) ?_;rw [n2, Array.length_toList, size_zeroCells, t6, ← Nat.add_mul]
        congr 1
        have := grownCap_ge w m 0 e
        omega
     ·rename_i id off n k' cap
      cases hcnd : (Nat.beq k k' && small (n + m) by_) with
      | false => trivial
      | true =>
       rw [cond_true];simp only [Bool.and_eq_true] at hcnd;have hkk := Nat.eq_of_beq_eq_true hcnd.1;subst hkk;have hsm := Nat.le_of_ble_eq_true hcnd.2;have hmm : n + m ≤ (n + m) * by_ := Nat.le_mul_of_pos_right _ (by omega)
       have hml : n + m ≤ maxLen := by unfold maxLen; omega
       cases hs with
       | @sl _ _ _ _ cap' p _ l hl h1 h2 h3 h4 =>
        -- the grown row
        have grow : ∀ (hh : H) (old : List V) (olds : List Value), Rel w0 ρ hh w → VC w ρ old olds → olds.length = n * k → (∀ j u, olds[j]? = some u → w.cell? ⟨l.b, p + j, none⟩ = some u) → cap' < n + m → c < 1048576 →
          UponE w0 ro c ρ w (.sl c 0 (n + m) k .un) (hset hh c (.cells (old ++ lst))) (c + 1) ((vS (appS' t ty (.slice (some ⟨l.b, p, none⟩) n cap') (.slice (some ⟨b, o, none⟩) m cp))).run P w) := by
         intro hh old olds hrr ho1 ho2 ho3 hlt hct;have hrun := run_append_grow (P := P) w t ty e i z t1 t2 t3 ⟨l.b, p, none⟩ n cap' olds (by rw [t4]; exact ho2) (fun j u hj => by rw [Addr.add_lit]; exact ho3 j u hj) ⟨b, o, none⟩ m cp news (by rw [t4]; exact n2) hadd hlt (by omega) (by rw [t5]; exact growslice_fits hlt hsm);rw [run_vS hrun]
         have hz1 : (olds.toArray ++ news.toArray ++ Builtin.zeroCells z.cells (grownCap w (n + m) cap' e - (n + m))) = ((olds ++ news) ++ (Builtin.zeroCells z.cells (grownCap w (n + m) cap' e - (n + m))).toList).toArray := by simp
         rw [hz1];refine upon_grown hrr hd hct (ho1.append n1) (by rw [List.length_append, ho2, n2, Nat.add_mul]) (grownCap_ge _ _ _ _) (grownCap_le_maxLen _ _ _ _ hml) ?_;rw [List.length_append, ho2, n2, Array.length_toList, size_zeroCells, t6, ← Nat.add_mul, ← Nat.add_mul]
         congr 1
         have := grownCap_ge w (n + m) cap' e
         omega
        have hpo : ∀ j u, (n = 0 → False) → w.cell? ⟨l.b, l.o + off + j, none⟩ = some u → w.cell? ⟨l.b, p + j, none⟩ = some u := by
         intro j u hn hju
         rcases h4 with h4 | ⟨h4, _⟩
         ·exfalso; exact hn (by omega)
         ·rw [h4]; exact hju
        have inPlace : Good P w0 ro c ρ w (vS (appS' t ty (.slice (some ⟨l.b, p, none⟩) n cap') (.slice (some ⟨b, o, none⟩) m cp))) (appIn h c ro k id off n m lst) := by
         unfold appIn
         split
         ·rename_i all hg
          cases hcnd2 : (Nat.ble ro id && Nat.beq (off + n * k) all.length && Nat.blt c top) with
          | false => trivial
          | true =>
           rw [cond_true, forceN_eq];simp only [Bool.and_eq_true] at hcnd2;have hro := Nat.le_of_ble_eq_true hcnd2.1.1;have hall := Nat.eq_of_beq_eq_true hcnd2.1.2;have hct : c < 1048576 := Nat.le_of_ble_eq_true hcnd2.2;have hid := hd id l hl;obtain ⟨us, ty', fr, k1, k2, k3⟩ := read_cells hr hl (show B.read (h.get id) = some all by rw [hg]; rfl)
           have hold : VC w ρ (all.drop off) ((us.toList.drop (l.o + off)).take (n * k)) := by
            have := k3.drop off;rw [List.drop_take, List.drop_drop, show all.length - off = n * k by omega] at this;exact this
           have hol : ((us.toList.drop (l.o + off)).take (n * k)).length = n * k := by
            rw [hold.length, List.length_drop]; omega
           by_cases hfit : n + m ≤ cap'
           ·-- in place
            obtain ⟨hp, vs, t', fr', q1, q2⟩ := h4.resolve_left (by omega);rw [k1] at q1
            cases q1
            obtain ⟨bb, r1, r2, r3, r4⟩ := hr.blk id l hl
            have : bb = .cells all := by rw [hg] at r1; exact (Option.some.inj r1).symm
            subst this;obtain ⟨us', ty'', e1, _, _⟩ := r3;rw [k1] at e1
            cases e1
            have hmk : (n + m) * k ≤ cap' * k := Nat.mul_le_mul_right _ hfit;rw [Nat.add_mul] at hmk
            have hroom : l.o + off + n * k + news.length ≤ us.size := by rw [n2]; omega
            obtain ⟨w', cur', s1, s2, s3, s4, s5, s6, s7, s8⟩ := run_storeCells (P := P) l.b (l.o + off + n * k) _ news 0 us w k1 (by simpa using hroom) n1.one
            have hcs : cur'.size = us.size := by
             rw [← Array.length_toList, s3, ← Array.length_toList (xs := us)];simp only [setAt, List.length_append, List.length_take, List.length_drop, Array.length_toList]
             omega
            have htn : Turn w l.b w' := ⟨s5, s6, s7, s8, s4, fun vs t fr hh => by
             rw [k1] at hh; cases hh; exact ⟨cur', _, s2, hcs⟩⟩
            have hf := run_firstCells_some (P := P) w i.size m ⟨b, o, none⟩ m cp news (by rw [t4]; exact n2) hadd
            have hrun : (appS' t ty (.slice (some ⟨l.b, p, none⟩) n cap') (.slice (some ⟨b, o, none⟩) m cp)).run P w = .ok (.slice (some ⟨l.b, p, none⟩) (n + m) cap') w' := by
             subst hp;rw [t4] at hf
             simp [appS', Builtin.append_, run_underlying t1, sizeOf, typeInfo, t2, Builtin.lenOf, hfit, t4, hf, Addr.add_lit, s1]
            show UponE _ _ _ _ _ _ _ _ _;rw [run_vS hrun];have hext := ext_alias (c := c) (o' := l.o + off) hd hct htn hl hro;refine ⟨upd ρ c ⟨l.b, l.o + off⟩, rel_alias hr hd hct htn hl hg rfl rfl ⟨cur', _, s2, ?_, ?_⟩, hext, .sl (l := ⟨l.b, l.o + off⟩) (upd_self _) hfit h2 trivial (.inr ⟨by rw [hp]; rfl, cur', _, _, s2, by rw [hcs]; exact q2⟩)⟩
            ·have h7 := n1.length;simp only [List.length_append, List.length_drop];rw [hcs]; omega
            ·have h7 := n1.length
             have e2 : (all.drop off ++ lst).length = n * k + news.length := by
              simp only [List.length_append, List.length_drop]; omega
             rw [e2, s3, Nat.add_zero];have := Sim.take_drop_set (cur := us.toList) (o := l.o + off) (a := n * k) (news := news) rfl (by rw [Array.length_toList]; exact hroom);simp only at this ⊢;rw [this];exact VC.mono hext.sub hext.shape (hold.append n1)
           ·-- no room
            have hk := rel_kill hr (id := id) (by omega);refine grow (hset h id .dead) (all.drop off) _ hk hold hol (fun j u hj => hpo j u (fun hn => ?_) ?_) (by omega) hct
            ·subst hn
             simp at hj
            ·have : ((us.toList.drop (l.o + off)).take (n * k))[j]? = some u := hj;exact cells_get k1 this
         ·trivial
        cases cap with
        | un => exact inPlace
        | ge _ => exact inPlace
        | ex cp' =>
         dsimp only;have hcc : cp' = cap' := h3.symm;subst hcc
         cases hlt : Nat.blt cp' (n + m) with
         | false => rw [cond_false]; exact inPlace
         | true =>
          have hlt := Nat.le_of_ble_eq_true hlt;rw [cond_true];unfold appNew
          cases hsl : slCells h id off (n * k) with
          | none => trivial
          | some old =>
           dsimp only;rw [forceN_eq];unfold new
           cases hct : Nat.blt c top with
           | false => trivial
           | true =>
            rw [cond_true];obtain ⟨olds, o1, o2, o3⟩ := slCells_ok hr hl hsl;refine grow h old olds hr o1 o2 (fun j u hj => hpo j u (fun hn => ?_) (o3 j u hj)) hlt (Nat.le_of_ble_eq_true hct);subst hn;have : olds = [] := List.eq_nil_of_length_eq_zero (by omega);rw [this] at hj; simp at hj
     ·trivial
end
end Go.Ex
namespace Go.Ex
open Go.Sim (tyK fieldK zeroK placesK appK flatK setAt run_isAgg run_loadVar_agg run_loadVar_one run_storeAt run_alloc run_box run_fieldAt fieldK_spec toList_inj appK_spec run_storeCells)
section
variable {P : Program} {w0 : World} {ro c : Nat} {ρ : Rh} {h : H} {w : World}
theorem beq_ba (s s' : ByteArray) : (s == s') = decide (s = s') := by
 cases s with | mk a => cases s' with | mk b =>
 rw [Bool.eq_iff_iff];simp only [ByteArray.mk.injEq, decide_eq_true_eq];show (a == b) = true ↔ _
 simp
theorem run_getObj {r : Nat} {o : Obj} (hb : w.heap[r]? = some o) (hn : ∀ a b c, o ≠ .cells a b c) (hp : ∀ a b, o ≠ .pending a b) (hv : ∀ a b, o ≠ .view a b) (hu : ∀ a b, o ≠ .number a b) : (getObj r).run P w = .ok o w := by
 simp only [getObj, Sem.run, hb]
theorem turn_set {r : Nat} {o o' : Obj} (hb : w.heap[r]? = some o) (hn : ∀ a b c, o ≠ .cells a b c) : Turn w r { w with heap := w.heap.setIfInBounds r o' } where
 size := by simp
 os := rfl
 tape := rfl
 output := rfl
 other := fun x hx => by simp [Array.getElem?_setIfInBounds_ne (Ne.symm hx)]
 shape := fun vs t fr hh => by rw [hb] at hh; cases hh; exact absurd rfl (hn _ _ _)
theorem set_get {r : Nat} {o o' : Obj} (hb : w.heap[r]? = some o) : ({ w with heap := w.heap.setIfInBounds r o' } : World).heap[r]? = some o' := by
 have hlt := (Array.getElem?_eq_some_iff.1 hb).1
 simp [hlt]
theorem g_range (hr : Rel w0 ρ h w) (hd : Dom ρ c) {t : TypeId} {x : V} {u : Value} (hx : VR w ρ x u) : Good P w0 ro c ρ w (vS (Instr.range t u)) (oRange P h c t x) := by
 unfold oRange
 split
 ·rename_i s hu
  have := hx.lit_inv; subst this;exact good_new (u := .pointer (some ⟨w.heap.size, 0, none⟩)) (o := .stringIter s 0) hr hd (by simp [Instr.range, run_underlying hu]) ⟨rfl, heap_alloc_new w _⟩ (.it (l := ⟨w.heap.size, 0⟩) (upd_self _))
 ·rename_i kt et id hu
  split
  ·rename_i es cl bs hg
   cases hx with
   | @mp _ l hl =>
    obtain ⟨b, h1, h2, h3, h4⟩ := hr.blk id l hl
    have : b = .map es cl bs := by rw [hg] at h1; exact (Option.some.inj h1).symm
    subst this;obtain ⟨en, h5, h6, h7⟩ := h3;have hget := run_getObj (P := P) h5 (by simp) (by simp) (by simp) (by simp);exact good_new (u := .pointer (some ⟨w.heap.size, 0, none⟩)) (o := .mapIter (some l.b) cl #[] cl) hr hd (by simp [Instr.range, run_underlying hu, hget]) ⟨rfl, l, new_sub hd _ _ _ hl, heap_alloc_new w _⟩ (.it (l := ⟨w.heap.size, 0⟩) (upd_self _))
  ·trivial
 ·trivial
theorem g_next (hr : Rel w0 ρ h w) (hd : Dom ρ c) (hct : c ≤ 1048576) {i : V} {u : Value} {str : Bool} {ty : TypeId} (hi : VR w ρ i u) : Good P w0 ro c ρ w (vS (Instr.next u str ty)) (oNext h c ro i str) := by
 unfold oNext
 split
 ·rename_i id
  split
  ·rename_i s pos hg
   cases str with
   | false => trivial
   | true =>
    rw [cond_true]
    cases hi with
    | @it _ l hl =>
     obtain ⟨b, h1, h2, h3, h4⟩ := hr.blk id l hl
     have : b = .sit s pos := by rw [hg] at h1; exact (Option.some.inj h1).symm
     subst this;obtain ⟨h5, h6⟩ := h3;have hget := run_getObj (P := P) h6 (by simp) (by simp) (by simp) (by simp);unfold nextS
     cases hp : s.data.toList[pos]? with
     | none =>
      have hge : ¬ (pos < s.size) := by
       intro hlt
       have : pos < s.data.toList.length := by rw [Array.length_toList]; exact hlt
       rw [List.getElem?_eq_getElem this] at hp
       cases hp
      refine good_same (u := .tuple #[.bool false]) hr ?_ (.tup (.cons (.lit _) .nil))
      simp [Instr.next, hget, hge]
     | some bt =>
      dsimp only
      have hlt : pos < s.data.toList.length := by
       rcases Nat.lt_or_ge pos s.data.toList.length with h | h
       ·exact h
       ·rw [List.getElem?_eq_none h] at hp; cases hp
      have hlt' : pos < s.size := by rw [Array.length_toList] at hlt; exact hlt
      cases hc : (Nat.blt bt.toNat 128 && Nat.ble ro id) with
      | false => trivial
      | true =>
       rw [cond_true, forceN_eq, forceN_eq];simp only [Bool.and_eq_true] at hc;have c1 : bt.toNat < 128 := Nat.le_of_ble_eq_true hc.1;have c2 := Nat.le_of_ble_eq_true hc.2
       have hbt : (s.get! pos).toNat = bt.toNat := by
        rw [List.getElem?_eq_getElem hlt] at hp;simp only [Option.some.injEq] at hp;rw [← hp]
        have : s.get! pos = s.data.toList[pos] := by
         simp only [ByteArray.get!];rw [getElem!_pos s.data pos hlt']
         simp
        rw [this]
       have hdec : Utf8.decode s pos = (bt.toNat, 1) := by
        simp only [Utf8.decode, Nat.add_zero, hbt];rw [if_pos c1]
       have htn := turn_set (o' := .stringIter s (pos + 1)) h6 (by simp);have hid := hd id l hl
       have hrun : (Instr.next (.pointer (some ⟨l.b, 0, none⟩)) true ty).run P w = .ok (.tuple #[.bool true, .int .i64 (Int.ofNat pos), .int .i32 (Int.ofNat bt.toNat)]) { w with heap := w.heap.setIfInBounds l.b (.stringIter s (pos + 1)) } := by
        simp only [Instr.next, Sem.run_bind, hget, Result.andThen_ok];rw [if_pos hlt', hdec]
        simp [setObj, Sem.run, h6, goInt]
       show UponE _ _ _ _ _ _ _ _ _;rw [run_vS hrun];exact ⟨ρ, rel_turn hr htn hl hg rfl rfl (by omega) ⟨h5, set_get h6⟩, ext_turn htn hl c2, .tup (.cons (.lit _) (.cons (.lit _) (.cons (.lit _) .nil)))⟩
  ·rename_i mid since seen last hg
   cases str with
   | true => trivial
   | false =>
    rw [cond_false]
    cases hi with
    | @it _ l hl =>
     obtain ⟨b, h1, h2, h3, h4⟩ := hr.blk id l hl
     have : b = .mit mid since seen last := by rw [hg] at h1; exact (Option.some.inj h1).symm
     subst this;obtain ⟨h5, lm, h6, h7⟩ := h3;obtain ⟨b', h1', h2', h3', h4'⟩ := hr.blk mid lm h6;have hget := run_getObj (P := P) h7 (by simp) (by simp) (by simp) (by simp);unfold nextM
     split
     ·rename_i cl bs hgm
      have : b' = .map [] cl bs := by rw [hgm] at h1'; exact (Option.some.inj h1').symm
      subst this;obtain ⟨en, k1, k2, k3⟩ := h3'
      have hen : en = #[] := by
       cases en with | mk L => cases k2 with
       | nil => rfl
      subst hen;have hgetm := run_getObj (P := P) k1 (by simp) (by simp) (by simp) (by simp);refine good_same (u := .tuple #[.bool false]) hr ?_ (.tup (.cons (.lit _) .nil))
      simp [Instr.next, hget, hgetm, Question.forced]
     ·rename_i k v cl bn hgm
      have : b' = .map [(k, v)] cl [bn] := by rw [hgm] at h1'; exact (Option.some.inj h1').symm
      subst this;obtain ⟨en, k1, k2, k3⟩ := h3'
      obtain ⟨e, hen, hek, hev⟩ : ∃ e, en = #[e] ∧ e.key = k ∧ VR w ρ v e.val := by
       cases en with | mk L => cases k2 with
       | cons q1 q2 q3 => cases q3; exact ⟨_, rfl, q1, q2⟩
      subst hen
      have hbn : e.born = bn := by simpa using k3
      have hgetm := run_getObj (P := P) k1 (by simp) (by simp) (by simp) (by simp)
      cases seen with
      | none =>
       dsimp only
       cases hc : (Nat.blt bn since && Nat.ble ro id) with
       | false => trivial
       | true =>
        rw [cond_true];simp only [Bool.and_eq_true] at hc;have c1 : bn < since := Nat.le_of_ble_eq_true hc.1;have c2 := Nat.le_of_ble_eq_true hc.2;have htn := turn_set (o' := .mapIter (some lm.b) since #[e.born] cl) h7 (by simp);have hid := hd id l hl
        have hrun : (Instr.next (.pointer (some ⟨l.b, 0, none⟩)) false ty).run P w = .ok (.tuple #[.bool true, e.key, e.val]) { w with heap := w.heap.setIfInBounds l.b (.mapIter (some lm.b) since #[e.born] cl) } := by
         subst hbn
         have c1' : ¬ since ≤ e.born := by omega
         simp [Instr.next, hget, hgetm, seenA, Question.forced, c1, c1', setObj, Sem.run, h7]
        show UponE _ _ _ _ _ _ _ _ _;rw [run_vS hrun];refine ⟨ρ, rel_turn hr htn hl hg rfl rfl (by omega) ⟨h5, lm, h6, by rw [set_get h7, hbn]; rfl⟩, ext_turn htn hl c2, .tup (.cons (.lit _) (.cons ?_ (.cons (VR.mono (fun _ _ h => h) htn.shapes hev) .nil)))⟩;rw [hek]; exact .lit _
      | some b' =>
       dsimp only
       cases hc : (Nat.beq bn b' && Nat.blt bn last) with
       | false => trivial
       | true =>
        rw [cond_true];simp only [Bool.and_eq_true] at hc;have c1 := Nat.eq_of_beq_eq_true hc.1;have c2 : bn < last := Nat.le_of_ble_eq_true hc.2;subst c1;refine good_same (u := .tuple #[.bool false]) hr ?_ (.tup (.cons (.lit _) .nil));subst hbn
        have c2' : ¬ last ≤ e.born := by omega
        simp [Instr.next, hget, hgetm, seenA, Question.forced, c2, c2']
     ·trivial
  ·trivial
 ·trivial
theorem g_entry (hr : Rel w0 ρ h w) {i : V} {u : Value} (hi : VR w ρ i u) : Good P w0 ro c ρ w (vS (Instr.entry u)) (oEntry h c i) := by
 unfold oEntry
 split
 ·rename_i id
  split
  ·rename_i mid since b' last hg
   cases hi with
   | @it _ l hl =>
    obtain ⟨b, h1, h2, h3, h4⟩ := hr.blk id l hl
    have : b = .mit mid since (some b') last := by rw [hg] at h1; exact (Option.some.inj h1).symm
    subst this;obtain ⟨h5, lm, h6, h7⟩ := h3;obtain ⟨b2, h1', h2', h3', h4'⟩ := hr.blk mid lm h6;have hget := run_getObj (P := P) h7 (by simp) (by simp) (by simp) (by simp)
    split
    ·rename_i k v cl bn hgm
     have : b2 = .map [(k, v)] cl [bn] := by rw [hgm] at h1'; exact (Option.some.inj h1').symm
     subst this;obtain ⟨en, k1, k2, k3⟩ := h3'
     obtain ⟨e, hen, hek, hev⟩ : ∃ e, en = #[e] ∧ e.key = k ∧ VR w ρ v e.val := by
      cases en with | mk L => cases k2 with
      | cons q1 q2 q3 => cases q3; exact ⟨_, rfl, q1, q2⟩
     subst hen
     have hbn : e.born = bn := by simpa using k3
     have hgetm := run_getObj (P := P) k1 (by simp) (by simp) (by simp) (by simp)
     cases hc : (Nat.beq bn b' && Nat.beq cl last) with
     | false => trivial
     | true =>
      rw [cond_true];simp only [Bool.and_eq_true] at hc;have c1 := Nat.eq_of_beq_eq_true hc.1;have c2 := Nat.eq_of_beq_eq_true hc.2;subst c1; subst c2; subst hbn; subst hek;refine good_same (u := .tuple #[e.key, e.val]) hr ?_ (.tup (.cons (.lit _) (.cons hev .nil)))
      simp [Instr.entry, hget, hgetm, seenA]
    ·trivial
  ·trivial
 ·trivial
theorem g_makeMap (hr : Rel w0 ρ h w) (hd : Dom ρ c) {t : TypeId} {r : Option Operand} {e : Operand → Value} : Good P w0 ro c ρ w (vS (Instr.makeMap t (r.map e))) (oMakeMap P h c t r) := by
 unfold oMakeMap
 split
 ·exact good_new (u := .map (some w.heap.size)) (o := .map #[] 0) hr hd (by simp [Instr.makeMap]) ⟨#[], heap_alloc_new w _, .nil, rfl⟩ (.mp (l := ⟨w.heap.size, 0⟩) (upd_self _))
 ·trivial
theorem mapTy_ok {t k e : TypeId} (h : mapTy P t = some (k, e)) : P.underlying t = some (.map k e) := by
 unfold mapTy at h
 split at h
 ·rename_i h1; simp only [Option.some.injEq, Prod.mk.injEq] at h; obtain ⟨rfl, rfl⟩ := h; exact h1
 ·cases h
theorem keyOk_cases {kt : TypeId} {k : Value} (h : keyOk P kt k = true) : (∃ kd n, k = .int kd n ∧ P.underlying kt = some (.int kd)) ∨ (∃ s, k = .string s ∧ P.underlying kt = some .string) := by
 unfold keyOk at h
 split at h
 ·rename_i k' k2 n hu
  have := of_decide_eq_true h;subst this;exact .inl ⟨_, n, rfl, hu⟩
 ·rename_i s hu; exact .inr ⟨s, rfl, hu⟩
 ·cases h
theorem run_checkKeyN {kt : TypeId} {k : Value} (h : keyOk P kt k = true) (b : Bool) (n : Nat) : (Instr.checkKey b (n + 1) kt k).run P w = .ok () w := by
 rcases keyOk_cases h with ⟨kd, m, rfl, hu⟩ | ⟨s, rfl, hu⟩ <;> simp [Instr.checkKey, run_underlying hu]
theorem run_checkKey {kt : TypeId} {k : Value} (h : keyOk P kt k = true) (b : Bool) : (Instr.checkKey b 10000 kt k).run P w = .ok () w := run_checkKeyN h b 9999
theorem sameNow_ok {kt : TypeId} {d : TypeDesc} {k k' : Value} {b : Bool} (h : keyOk P kt k = true) (hu : P.underlying kt = some d) (hk : keyEq k k' = some b) : Instr.sameNow d k k' = some b := by
 rcases keyOk_cases h with ⟨kd, n, rfl, hu'⟩ | ⟨s, rfl, hu'⟩
 ·rw [hu'] at hu; cases hu
  cases k' <;> simp only [keyEq] at hk <;> try (cases hk; done)
  rename_i kd' n'
  by_cases he : kd = kd'
  ·subst he;rw [decide_eq_true rfl, cond_true] at hk;simp only [Option.some.injEq] at hk;simp only [Instr.sameNow, if_true, Option.some.injEq, ← hk];rw [Bool.eq_iff_iff]; simp
  ·rw [decide_eq_false he] at hk; cases hk
 ·rw [hu'] at hu; cases hu
  cases k' <;> simp only [keyEq] at hk <;> try (cases hk; done)
  rename_i s'
  simp only [Option.some.injEq] at hk;simp only [Instr.sameNow, Option.some.injEq, ← hk, eqU_eq, beq_ba];rw [Bool.eq_iff_iff];simp only [decide_eq_true_eq]
  constructor
  ·rintro rfl; rfl
  ·intro e
   cases s; cases s'
   rw [ByteArray.mk.injEq];exact Array.toList_inj.1 e
theorem findE_ok {kt : TypeId} {d : TypeDesc} {k : Value} (h : keyOk P kt k = true) (hu : P.underlying kt = some d) : ∀ {es : List (Value × V)} {entries : List MapEntry} {r : Option V} (i : Nat), ER w ρ es entries → findE k es = some r →
  (r = none ∧ Instr.findNow d k entries i = some none ∧ ∀ x, putE k x es = es ++ [(k, x)]) ∨ ∃ v j u, r = some v ∧ Instr.findNow d k entries i = some (some (i + j, u)) ∧ VR w ρ v u ∧ ∃ e, entries[j]? = some e ∧ e.val = u ∧ keyEq k e.key = some true ∧ ∀ x ux, VR w ρ x ux → ER w ρ (putE k x es) (entries.modify j fun e => { e with key := k, val := ux })
 | _, _, r, i, .nil, hf => by
  simp only [findE, Option.some.injEq] at hf;subst hf;exact .inl ⟨rfl, rfl, fun _ => rfl⟩
 | _, _, r, i, .cons (k := k') (v := v) (e := e) hk hv htl, hf => by
  simp only [findE] at hf
  cases hq : keyEq k k' with
  | none => rw [hq] at hf; cases hf
  | some b =>
   have hs := sameNow_ok h hu (by rw [← hk] at hq; exact hq);rw [hq] at hf
   cases b with
   | true =>
    simp only [Option.some.injEq] at hf;subst hf;refine .inr ⟨v, 0, e.val, rfl, by simp [Instr.findNow, hs], hv, e, rfl, rfl, by rw [hk]; exact hq, fun x ux hx => by simp only [putE, hq, List.modify_zero_cons]; exact .cons rfl hx htl⟩
   | false =>
    rcases findE_ok h hu (i + 1) htl hf with ⟨g1, g2, g3⟩ | ⟨v', j, u, g1, g2, g3, e', g4, g5, g6, g7⟩
    ·exact .inl ⟨g1, by simp [Instr.findNow, hs, g2], fun x => by simp only [putE, hq, g3, List.cons_append]⟩
    ·refine .inr ⟨v', j + 1, u, g1, by simp only [Instr.findNow, hs, g2]; congr 3; omega, g3, e', by simpa using g4, g5, g6, fun x ux hx => by simp only [putE, hq, List.modify_succ_cons]; exact .cons hk hv (g7 x ux hx)⟩
end
end Go.Ex
namespace Go.Ex
open Go.Sim (tyK fieldK zeroK placesK appK flatK setAt run_isAgg run_loadVar_agg run_loadVar_one run_storeAt run_alloc run_box run_fieldAt fieldK_spec toList_inj appK_spec run_storeCells)
section
variable {P : Program} {w0 : World} {ro c : Nat} {ρ : Rh} {h : H} {w : World}
theorem ofZero_ok {e : TypeId} {v : V} (h : ofZero P e = some v) : ∃ u, (zeroValue e).run P w = .ok u w ∧ VR w ρ v u := by
 unfold ofZero at h
 split at h
 ·rename_i i hi
  split at h
  ·rename_i cs hz
   cases hc : cs.toList.all Value.oneCell' with
   | false => rw [hc] at h; cases h
   | true =>
    rw [hc, cond_true] at h;simp only [Option.some.injEq] at h;subst h;refine ⟨.agg cs, run_zeroValue hi hz, ?_⟩;have := VR.agg (VC.lits (w := w) (ρ := ρ) (List.all_eq_true.1 hc))
    simpa using this
  ·rename_i z _ hz
   cases hc : z.oneCell' with
   | false => rw [hc] at h; cases h
   | true =>
    rw [hc, cond_true] at h;simp only [Option.some.injEq] at h;subst h;exact ⟨z, run_zeroValue hi hz, .lit z⟩
  ·cases h
 ·cases h
theorem keyTy {kt : TypeId} {k : Value} (h : keyOk P kt k = true) : ∃ d, P.underlying kt = some d := by
 rcases keyOk_cases h with ⟨_, _, _, hu⟩ | ⟨_, _, hu⟩ <;> exact ⟨_, hu⟩
theorem g_lookup (hr : Rel w0 ρ h w) {t : TypeId} {m k : V} {um uk : Value} {ok : Bool} (hm : VR w ρ m um) (hk : VR w ρ k uk) : Good P w0 ro c ρ w (vS (Instr.lookup t um uk ok)) (oLookup P h c t m k ok) := by
 unfold oLookup
 split
 ·rename_i kt e id kv hmt
  have hu := mapTy_ok hmt;have := hk.lit_inv; subst this
  cases hm with
  | @mp _ l hl =>
   split
   ·rename_i es cl_ bs_ z hg hz
    cases hko : keyOk P kt uk with
    | false => trivial
    | true =>
     rw [cond_true];obtain ⟨b, h1, h2, h3, h4⟩ := hr.blk id l hl
     have : b = .map es cl_ bs_ := by rw [hg] at h1; exact (Option.some.inj h1).symm
     subst this;obtain ⟨entries, h5, h6, h7⟩ := h3;have hget := run_getObj (P := P) h5 (by simp) (by simp) (by simp) (by simp);obtain ⟨d, hd⟩ := keyTy hko;obtain ⟨uz, hz1, hz2⟩ := ofZero_ok (P := P) (w := w) (ρ := ρ) hz;unfold found
     split
     ·rename_i v hf
      rcases findE_ok hko hd 0 h6 hf with ⟨g1, _⟩ | ⟨v', j, u, g1, g2, g3, _⟩
      ·cases g1
      ·simp only [Option.some.injEq] at g1;subst g1
       cases ok with
       | true =>
        refine good_same (u := .tuple #[u, .bool true]) hr ?_ (.tup (.cons g3 (.cons (.lit _) .nil)))
        simp [Instr.lookup, run_underlying hu, hget, run_checkKey hko, Instr.findKey, run_underlying hd, g2]
       | false =>
        refine good_same (u := u) hr ?_ g3
        simp [Instr.lookup, run_underlying hu, hget, run_checkKey hko, Instr.findKey, run_underlying hd, g2]
     ·rename_i hf
      rcases findE_ok hko hd 0 h6 hf with ⟨_, g2, _⟩ | ⟨_, _, _, g1, _⟩
      ·cases ok with
       | true =>
        refine good_same (u := .tuple #[uz, .bool false]) hr ?_ (.tup (.cons hz2 (.cons (.lit _) .nil)))
        simp [Instr.lookup, run_underlying hu, hget, run_checkKey hko, Instr.findKey, run_underlying hd, g2, hz1]
       | false =>
        refine good_same (u := uz) hr ?_ hz2
        simp [Instr.lookup, run_underlying hu, hget, run_checkKey hko, Instr.findKey, run_underlying hd, g2, hz1]
      ·cases g1
     ·trivial
   ·trivial
 ·trivial
theorem same_bits {kt : TypeId} {k k' : Value} (h : keyOk P kt k = true) (hk : keyEq k k' = some true) (n : Nat) : Instr.sameBits n k' k = true := by
 rcases keyOk_cases h with ⟨kd, m, rfl, hu'⟩ | ⟨s, rfl, hu'⟩
 ·cases k' <;> simp only [keyEq] at hk <;> try (cases hk; done)
  rename_i kd' n'
  by_cases he : kd = kd'
  ·subst he;rw [decide_eq_true rfl, cond_true] at hk;simp only [Option.some.injEq, decide_eq_true_eq] at hk;subst hk
   cases n <;> simp [Instr.sameBits]
  ·rw [decide_eq_false he] at hk; cases hk
 ·cases k' <;> simp only [keyEq] at hk <;> try (cases hk; done)
  rename_i s'
  simp only [Option.some.injEq, eqU_eq, decide_eq_true_eq] at hk
  have : s = s' := by
   cases s; cases s'
   rw [ByteArray.mk.injEq];exact Array.toList_inj.1 hk
  subst this
  cases n <;> simp [Instr.sameBits, beq_ba]
theorem born_modify (en : Array MapEntry) (j : Nat) (k v : Value) : (en.modify j fun e => { e with key := k, val := v }).toList.map (·.born) = en.toList.map (·.born) := by
 apply List.ext_getElem?
 intro i;simp only [Array.toList_modify, List.getElem?_map, List.getElem?_modify]
 cases en.toList[i]? with
 | none => rfl
 | some e => by_cases h : j = i <;> simp [h]
theorem g_mapUpdate (hr : Rel w0 ρ h w) (hd : Dom ρ c) (hct : c ≤ 1048576) {t : TypeId} {m k v : V} {um uk uv : Value} (hm : VR w ρ m um) (hk : VR w ρ k uk) (hv : VR w ρ v uv) : Good P w0 ro c ρ w (uS (Instr.mapUpdate t um uk uv)) (oMapUpdate P h c ro t m k v) := by
 unfold oMapUpdate
 split
 ·rename_i kt e id kv hmt
  have hu := mapTy_ok hmt;have := hk.lit_inv; subst this
  cases hm with
  | @mp _ l hl =>
   split
   ·rename_i es clock bs hg
    cases hcnd : (keyOk P kt uk && Nat.ble ro id) with
    | false => trivial
    | true =>
     rw [cond_true];simp only [Bool.and_eq_true] at hcnd;obtain ⟨hko, hro⟩ := hcnd;have hro := Nat.le_of_ble_eq_true hro;obtain ⟨b, h1, h2, h3, h4⟩ := hr.blk id l hl
     have : b = .map es clock bs := by rw [hg] at h1; exact (Option.some.inj h1).symm
     subst this;obtain ⟨entries, h5, h6, h7⟩ := h3;have hget := run_getObj (P := P) h5 (by simp) (by simp) (by simp) (by simp);obtain ⟨d, hdd⟩ := keyTy hko;have hid := hd id l hl
     cases hf : findE uk es with
     | none => trivial
     | some r =>
      rcases findE_ok hko hdd 0 h6 hf with ⟨g1, g2, g3⟩ | ⟨v', j, u, g1, g2, g3, e', g4, g5, g6, g7⟩
      ·subst g1;dsimp only;show UponE _ _ _ _ _ _ _ _ _;have htn := turn_set (o' := .map (entries.push { key := uk, val := uv, born := clock }) (clock + 1)) h5 (by simp)
       have hrun : (Instr.mapUpdate t (.map (some l.b)) uk uv).run P w = .ok () { w with heap := w.heap.setIfInBounds l.b (.map (entries.push { key := uk, val := uv, born := clock }) (clock + 1)) } := by
        simp only [Instr.mapUpdate, Sem.run_bind, run_underlying hu, Result.andThen_ok, hget, run_checkKey hko, Instr.findKey, run_underlying hdd, g2, Sem.run_pure]
        simp [setObj, Sem.run, h5]
       rw [run_uS hrun];refine ⟨ρ, rel_turn hr htn hl hg rfl rfl (by omega) ⟨_, set_get h5, ?_, by simp [h7]⟩, ext_turn htn hl hro, .lit undef⟩;rw [g3];have h6' := ER.mono (fun _ _ h => h) htn.shapes h6
       have happ : ∀ {a : List (Value × V)} {x : List MapEntry} {b : List (Value × V)} {y : List MapEntry} {w : World}, ER w ρ a x → ER w ρ b y → ER w ρ (a ++ b) (x ++ y) := by
        intro a x b y w ha hb
        induction ha with
        | nil => exact hb
        | cons p q r ih => exact .cons p q ih
       have := happ h6' (.cons (k := uk) (v := v) (e := { key := uk, val := uv, born := clock }) rfl (VR.mono (fun _ _ h => h) htn.shapes hv) .nil)
       simpa using this
      ·subst g1;dsimp only;show UponE _ _ _ _ _ _ _ _ _;have htn := turn_set (o' := .map (entries.modify (0 + j) fun e => { e with key := uk, val := uv }) clock) h5 (by simp)
       have hks : (Instr.keyThatStays (((entries[0 + j]?).map (·.key)).getD uk) uk).run P w = .ok uk w := by
        have : entries[0 + j]? = some e' := by rw [Nat.zero_add]; simpa using g4
        rw [this];have hsb := same_bits hko g6 10000;simp only [Option.map_some, Option.getD_some, Instr.keyThatStays, hsb, if_true, Sem.run_pure]
       have hrun : (Instr.mapUpdate t (.map (some l.b)) uk uv).run P w = .ok () { w with heap := w.heap.setIfInBounds l.b (.map (entries.modify (0 + j) fun e => { e with key := uk, val := uv }) clock) } := by
        simp only [Instr.mapUpdate, Sem.run_bind, run_underlying hu, Result.andThen_ok, hget, run_checkKey hko, Instr.findKey, run_underlying hdd, g2, Sem.run_pure, hks]
        simp [setObj, Sem.run, h5]
       rw [run_uS hrun];refine ⟨ρ, rel_turn hr htn hl hg rfl rfl (by omega) ⟨_, set_get h5, ?_, by rw [← h7]; exact born_modify _ _ _ _⟩, ext_turn htn hl hro, .lit undef⟩;have := ER.mono (fun _ _ h => h) htn.shapes (g7 v uv hv)
       simpa using this
   ·trivial
 ·trivial
end
end Go.Ex
namespace Go.Ex
open Go.Sim (tyK fieldK zeroK placesK appK flatK setAt run_isAgg run_loadVar_agg run_loadVar_one run_storeAt run_alloc run_box run_fieldAt fieldK_spec toList_inj appK_spec run_storeCells)
section
variable {P : Program} {w0 : World} {ro c : Nat} {ρ : Rh} {h : H} {w : World}
theorem g_copyJ (hr : Rel w0 ρ h w) (hd : Dom ρ c) (hct : c ≤ 1048576) {t t2 ty e : TypeId} {k id off n id2 off2 m j : Nat} {b : Bool} {cap cap2 : Cp} {ud ux : Value} (hu : P.underlying t = some (.slice e)) (hty : tyK P e = some (k, b))
  (hdv : VR w ρ (.sl id off n k cap) ud) (hx : VR w ρ (.sl id2 off2 m k cap2) ux) (hmn : Nat.min m n = j) (hjn : j ≤ n) (hjm : j ≤ m) : Good P w0 ro c ρ w (vS (Builtin.copy_ #[t, t2] ty #[ud, ux])) (copyJ h c ro k id off id2 off2 j) := by
 unfold copyJ
 cases hcnd : (Nat.ble ro id && Nat.blt 0 j) with
 | false => trivial
 | true =>
  rw [cond_true];simp only [Bool.and_eq_true] at hcnd;have hro := Nat.le_of_ble_eq_true hcnd.1;have hn : 0 < j := Nat.le_of_ble_eq_true hcnd.2
  split
  ·rename_i l all hsl hg
   cases hfit : Nat.ble (off + j * k) all.length with
   | false => trivial
   | true =>
    have hfit := Nat.le_of_ble_eq_true hfit;rw [cond_true]
    cases hdv with
    | @sl _ _ _ _ cap' p _ l1 hl1 h1 h2 h3 h4 =>
     cases hx with
     | @sl _ _ _ _ cap2' p2 _ l2 hl2 q1 q2 q3 q4 =>
      obtain ⟨us, g1, g2, g3⟩ := slCells_ok hr hl2 hsl;obtain ⟨hp, _⟩ := h4.resolve_left (by omega);obtain ⟨hp2, _⟩ := q4.resolve_left (by omega);obtain ⟨bb, r1, r2, r3, r4⟩ := hr.blk id l1 hl1
      have : bb = .cells all := by rw [hg] at r1; exact (Option.some.inj r1).symm
      subst this;obtain ⟨cur, ty', k1, k2, k3⟩ := r3;obtain ⟨w', cur', s1, s2, s3, s4, s5, s6, s7, s8⟩ := run_storeCells (P := P) l1.b (l1.o + off) _ us 0 cur w k1 (by omega) g1.one
      have hcs : cur'.size = cur.size := by
       rw [← Array.length_toList, s3, ← Array.length_toList (xs := cur)];simp only [setAt, List.length_append, List.length_take, List.length_drop, Array.length_toList]
       omega
      have htn : Turn w l1.b w' := ⟨s5, s6, s7, s8, s4, fun vs t fr hh => by
       rw [k1] at hh; cases hh; exact ⟨cur', _, s2, hcs⟩⟩
      have hf := run_firstCells_some (P := P) w k j ⟨l2.b, p2, none⟩ m cap2' us g2 (fun j u hj => by rw [Addr.add_lit, hp2]; exact g3 j u hj);have hid := hd id l1 hl1
      have hrun : (Builtin.copy_ #[t, t2] ty #[.slice (some ⟨l1.b, p, none⟩) n cap', .slice (some ⟨l2.b, p2, none⟩) m cap2']).run P w = .ok (.int .i64 (Int.ofNat j)) w' := by
       subst hp
       simp [Builtin.copy_, run_underlying hu, Builtin.lenOf, Sim.run_sizeOf hty, hmn, hf, s1, goInt]
      show UponE _ _ _ _ _ _ _ _ _;rw [run_vS hrun];have hll := g1.length
      have hlen : (setAt all off l).length = all.length := by
       simp only [setAt, List.length_append, List.length_take, List.length_drop]
       omega
      refine ⟨ρ, rel_turn hr htn hl1 hg rfl rfl (by omega) ⟨cur', _, s2, by rw [hlen]; omega, ?_⟩, ext_turn htn hl1 hro, .lit _⟩;rw [hlen, s3, Nat.add_zero]
      have hml : cur.toList.length = cur.size := by simp
      rw [take_setAt (n := all.length) (by omega) (by omega)];exact VC.mono (fun _ _ h => h) htn.shapes (k3.setAt off g1)
  ·trivial
theorem g_copy (hr : Rel w0 ρ h w) (hd : Dom ρ c) (hct : c ≤ 1048576) {t t2 ty : TypeId} {d x : V} {ud ux : Value} (hdv : VR w ρ d ud) (hx : VR w ρ x ux) : Good P w0 ro c ρ w (vS (Builtin.copy_ #[t, t2] ty #[ud, ux])) (oCopy P h c ro [d, x] [t, t2]) := by
 unfold oCopy;dsimp only
 cases hs : slTy P t with
 | none => trivial
 | some e =>
  have hu := slTy_ok hs;dsimp only
  split
  ·rename_i k b id off n k1 cap id2 off2 m k2 cap2 hty
   cases hkk : (Nat.beq k k1 && Nat.beq k k2) with
   | false => trivial
   | true =>
    rw [cond_true];simp only [Bool.and_eq_true] at hkk;have e1 := Nat.eq_of_beq_eq_true hkk.1;have e2 := Nat.eq_of_beq_eq_true hkk.2;subst e1; subst e2;unfold copyV
    cases hnm : Nat.ble n m with
    | true =>
     have hnm := Nat.le_of_ble_eq_true hnm;rw [cond_true];exact g_copyJ hr hd hct hu hty hdv hx (Nat.min_eq_right hnm) (Nat.le_refl _) hnm
    | false =>
     have hnm : ¬ n ≤ m := fun h => by rw [Nat.ble_eq_true_of_le h] at hnm; cases hnm
     rw [cond_false];exact g_copyJ hr hd hct hu hty hdv hx (Nat.min_eq_left (by omega)) (by omega) (Nat.le_refl _)
  ·rename_i kb id off k1 cap hty
   have := hx.lit_inv; subst this
   cases hdv with
   | @sl _ _ _ _ cap' p _ l1 hl1 h1 h2 h3 h4 =>
    obtain ⟨k, b⟩ := kb;refine good_lit hr ?_
    simp [Builtin.copy_, run_underlying hu, Builtin.lenOf, Sim.run_sizeOf hty, Builtin.firstCells, storeCells, goInt]
  ·trivial
theorem run_zeroV {e : TypeId} {i : TypeInfo} {z : Value} (h1 : P.info? e = some i) (h2 : i.zero = some z) : (zeroValue e).run P w = .ok z w := run_zeroValue h1 h2
theorem g_clear (hr : Rel w0 ρ h w) (hd : Dom ρ c) (hct : c ≤ 1048576) {t ty : TypeId} {x : V} {ux : Value} (hx : VR w ρ x ux) : Good P w0 ro c ρ w (vS (Builtin.clear_ #[t] ty #[ux])) (oClear P h c ro [x] [t]) := by
 unfold oClear
 split
 ·rename_i id off n k1 cap t' heq heq2
  simp only [List.cons.injEq, and_true] at heq heq2;subst heq; subst heq2
  cases hs : slTy P t with
  | none => trivial
  | some e =>
   have hu := slTy_ok hs;dsimp only
   split
   ·rename_i k b zs hty hz
    cases hn0 : Nat.beq n 0 with
    | true =>
     have := Nat.eq_of_beq_eq_true hn0;subst this;rw [cond_true]
     cases hx with
     | @sl _ _ _ _ cap' p _ l hl h1 h2 h3 h4 =>
      refine good_same (u := .tuple #[]) hr ?_ (.tup .nil)
      simp [Builtin.clear_, run_underlying hu]
    | false =>
     rw [cond_false]
     cases hkk : Nat.beq k k1 with
     | false => trivial
     | true =>
      have := Nat.eq_of_beq_eq_true hkk;subst this;rw [cond_true];unfold clearV
      cases hcnd : (Nat.ble ro id && Nat.blt 0 n && zs.all Value.oneCell' && Nat.beq zs.length k) with
      | false => trivial
      | true =>
       rw [cond_true];simp only [Bool.and_eq_true] at hcnd;obtain ⟨⟨⟨c1, c2⟩, c3⟩, c4⟩ := hcnd;have hro := Nat.le_of_ble_eq_true c1;have hn : 0 < n := Nat.le_of_ble_eq_true c2;have c4 := Nat.eq_of_beq_eq_true c4;obtain ⟨i, z, hi, hz', hzs⟩ := zeroK_spec hz
       have hzsz : z.cells.size = k := by rw [← Array.length_toList, hzs, c4]
       split
       ·rename_i all hg
        cases hfit : Nat.ble (off + n * k) all.length with
        | false => trivial
        | true =>
         have hfit := Nat.le_of_ble_eq_true hfit;rw [cond_true]
         cases hx with
         | @sl _ _ _ _ cap' p _ l1 hl1 h1 h2 h3 h4 =>
          obtain ⟨hp, _⟩ := h4.resolve_left (by omega);obtain ⟨bb, r1, r2, r3, r4⟩ := hr.blk id l1 hl1
          have : bb = .cells all := by rw [hg] at r1; exact (Option.some.inj r1).symm
          subst this;obtain ⟨cur, ty', k1, k2, k3⟩ := r3;have g1 : VC w ρ (zerosOf zs n) (List.replicate n zs).flatten := zeros_vc c3 n
          have g2 : (List.replicate n zs).flatten.length = n * k := by simp [c4]
          have hzl : (Builtin.zeroCells z.cells n).toList = (List.replicate n zs).flatten := by
           rw [← hzs, ← zeros_list hzsz n]
           simp [Builtin.zeroCells, hzsz]
          obtain ⟨w', cur', s1, s2, s3, s4, s5, s6, s7, s8⟩ := run_storeCells (P := P) l1.b (l1.o + off) _ (List.replicate n zs).flatten 0 cur w k1 (by omega) g1.one
          have hcs : cur'.size = cur.size := by
           rw [← Array.length_toList, s3, ← Array.length_toList (xs := cur)];simp only [setAt, List.length_append, List.length_take, List.length_drop, Array.length_toList]
           omega
          have htn : Turn w l1.b w' := ⟨s5, s6, s7, s8, s4, fun vs t fr hh => by
           rw [k1] at hh; cases hh; exact ⟨cur', _, s2, hcs⟩⟩
          have hid := hd id l1 hl1
          have hrun : (Builtin.clear_ #[t] ty #[.slice (some ⟨l1.b, p, none⟩) n cap']).run P w = .ok (.tuple #[]) w' := by
           subst hp;obtain ⟨m, rfl⟩ : ∃ m, n = m + 1 := ⟨n - 1, by omega⟩
           simp [Builtin.clear_, run_underlying hu, run_zeroV (w := w) hi hz', hzl, s1]
          show UponE _ _ _ _ _ _ _ _ _;rw [run_vS hrun];have hll := g1.length
          have hlen : (setAt all off (zerosOf zs n)).length = all.length := by
           simp only [setAt, List.length_append, List.length_take, List.length_drop]
           omega
          refine ⟨ρ, rel_turn hr htn hl1 hg rfl rfl (by omega) ⟨cur', _, s2, by rw [hlen]; omega, ?_⟩, ext_turn htn hl1 hro, .tup .nil⟩;rw [hlen, s3, Nat.add_zero]
          have hml : cur.toList.length = cur.size := by simp
          rw [take_setAt (n := all.length) (by omega) (by omega)];exact VC.mono (fun _ _ h => h) htn.shapes (k3.setAt off g1)
       ·trivial
   ·trivial
 ·trivial
theorem g_lenV (hr : Rel w0 ρ h w) {t ty : TypeId} {x : V} {u : Value} (hx : VR w ρ x u) : Good P w0 ro c ρ w (vS (Builtin.len_ #[t] ty #[u])) (lenV P h c t x) := by
 unfold lenV
 split
 ·rename_i e id off n k cap hu
  cases hx with
  | sl hl h1 h2 h3 h4 => exact good_lit hr (by simp [Builtin.len_, underlying, hu, goInt])
 ·rename_i e hu
  have := hx.lit_inv; subst this;exact good_lit hr (by simp [Builtin.len_, underlying, hu, goInt])
 ·rename_i s hu
  have := hx.lit_inv; subst this;refine good_intV hr ?_;have hsz : s.data.toList.length = s.size := Array.length_toList;rw [hsz]
  simp [Builtin.len_, underlying, hu, goInt]
 ·trivial
theorem g_max (hr : Rel w0 ρ h w) {ts : Array TypeId} {ty : TypeId} {x y : V} {ux uy : Value} (hx : VR w ρ x ux) (hy : VR w ρ y uy) : Good P w0 ro c ρ w (vS (Builtin.max_ ts ty #[ux, uy])) (oMM h c true [x, y]) := by
 unfold oMM
 split
 ·rename_i a b heq
  simp only [List.cons.injEq, and_true] at heq;obtain ⟨rfl, rfl⟩ := heq;have := hx.lit_inv; subst this;have := hy.lit_inv; subst this;refine good_intV hr ?_;rw [ltI_eq];simp only [run_max_int2, cond_true]
  by_cases h1 : a < b
  ·rw [decide_eq_true h1, if_pos h1]; rfl
  ·rw [decide_eq_false h1, if_neg h1]; rfl
 ·trivial
theorem g_min (hr : Rel w0 ρ h w) {ts : Array TypeId} {ty : TypeId} {x y : V} {ux uy : Value} (hx : VR w ρ x ux) (hy : VR w ρ y uy) : Good P w0 ro c ρ w (vS (Builtin.min_ ts ty #[ux, uy])) (oMM h c false [x, y]) := by
 unfold oMM
 split
 ·rename_i a b heq
  simp only [List.cons.injEq, and_true] at heq;obtain ⟨rfl, rfl⟩ := heq;have := hx.lit_inv; subst this;have := hy.lit_inv; subst this;refine good_intV hr ?_;rw [ltI_eq];simp only [run_min_int2, cond_false]
  by_cases h1 : a < b
  ·rw [decide_eq_true h1, if_neg (by omega)]; rfl
  ·by_cases h2 : b < a
   ·rw [decide_eq_false h1, if_pos h2]; rfl
   ·have : a = b := by omega
    subst this;rw [decide_eq_false h1, if_neg h2]; rfl
 ·trivial
end
end Go.Ex
namespace Go.Ex
open Go.Sim (tyK fieldK zeroK placesK appK flatK setAt)
section
variable {P : Program} {w0 : World} {ro c : Nat} {ρ : Rh} {h : H} {w : World}
theorem vl_map {ev : Ev} {e : Operand → Value} : ∀ {l : List Operand}, (∀ x ∈ l, VR w ρ (ev x) (e x)) → VL w ρ (l.map ev) (l.map e)
 | [], _ => .nil
 | x :: l, h => .cons (h x List.mem_cons_self) (vl_map fun y hy => h y (List.mem_cons_of_mem _ hy))
theorem partsR_map {ev : Ev} {e : Operand → Value} {ps : Array (Nat × Operand)} (h : ∀ p ∈ ps.toList, VR w ρ (ev p.2) (e p.2)) : PartsR w ρ (partsV ev ps) (ps.map fun (i, x) => (i, e x)).toList := by
 refine ⟨by simp [partsV], fun j p q hp hq => ?_⟩;simp only [partsV, List.getElem?_map, Option.map_eq_some_iff] at hp;obtain ⟨r, h1, rfl⟩ := hp;rw [Array.toList_map, List.getElem?_map, h1] at hq;simp only [Option.map_some, Option.some.injEq] at hq;subst hq;exact ⟨rfl, h r (List.mem_of_getElem? h1)⟩
theorem or_map {ev : Ev} {e : Operand → Value} {x : Option Operand} (h : ∀ y, x = some y → VR w ρ (ev y) (e y)) : OR w ρ (x.map ev) (x.map e) := by
 cases x with
 | none => exact .none
 | some y => exact .some (h y rfl)
theorem g_appNil (hr : Rel w0 ρ h w) {t ty : TypeId} {s x : V} {u v : Value} (hs : VR w ρ s u) (hx : VR w ρ x v) (hn : isNil x = true) : Good P w0 ro c ρ w (vS (appS' t ty u v)) (appNil P h c t s) := by
 unfold appNil
 split
 ·rename_i ekb ha
  obtain ⟨e, k, by_⟩ := ekb;obtain ⟨i, z, t1, t2, t3, t4, t5, t6⟩ := Sim.appK_spec ha
  obtain ⟨a, cp, rfl⟩ : ∃ a cp, v = .slice a 0 cp := by
   unfold isNil at hn
   split at hn
   ·exact ⟨none, 0, hx.lit_inv⟩
   ·cases hx with | sl hl h1 h2 h3 h4 => exact ⟨_, _, rfl⟩
   ·cases hn
  have hf : ∀ n, (Builtin.firstCells n 0 (.slice a 0 cp)).run P w = .ok #[] w := by
   intro n
   cases a with
   | none => simp [Builtin.firstCells]
   | some a => simp [Builtin.firstCells, loadCells, loadCellsFrom]
  cases ho : okSl s with
  | false => trivial
  | true =>
   rw [cond_true];refine good_same hr ?_ hs;unfold okSl at ho
   split at ho
   ·have := hs.lit_inv; subst this
    simp [appS', Builtin.append_, run_underlying t1, sizeOf, typeInfo, t2, Builtin.lenOf, hf]
   ·cases hs with
    | sl hl h1 h2 h3 h4 => simp [appS', Builtin.append_, run_underlying t1, sizeOf, typeInfo, t2, Builtin.lenOf, hf, h1, storeCells]
   ·cases ho
 ·trivial
theorem iop_sound (hr : Rel w0 ρ h w) (hd : Dom ρ c) (hct : c ≤ 1048576) {o : Oper} {e : Operand → Value} {ev : Ev} (he : ∀ x ∈ o.op.operands, VR w ρ (ev x) (e x)) : Good P w0 ro c ρ w (execOp e o) (iop P h c ro o.op ev) := by
 obtain ⟨dst, op, type, pos, after, guard⟩ := o;dsimp only at he ⊢
 cases op with
 | move x => exact good_sameN hr rfl (he x (by simp [Op.operands]))
 | assign x => exact good_sameN hr rfl (he x (by simp [Op.operands]))
 | pick b x y => exact g_pick hr (he b (by simp [Op.operands])) (he x (by simp [Op.operands])) (he y (by simp [Op.operands]))
 | alloc t => exact g_alloc hr hd
 | box t x => exact g_box hr hd (he x (by simp [Op.operands]))
 | load t a => exact g_load hr (he a (by simp [Op.operands]))
 | store t a x => exact g_store hr hd hct (he a (by simp [Op.operands])) (he x (by simp [Op.operands]))
 | nilCheck x => exact g_nil hr (o := ⟨dst, .nilCheck x, type, pos, after, guard⟩) rfl (he x (by simp [Op.operands]))
 | binOp op t x y t' => exact g_binop hr (he x (by simp [Op.operands])) (he y (by simp [Op.operands]))
 | unOp op t x => exact g_un hr (he x (by simp [Op.operands]))
 | convert s t x => exact g_conv hr (he x (by simp [Op.operands]))
 | fieldAddr s x i => exact g_fieldAddr hr (he x (by simp [Op.operands]))
 | field s x i => exact g_field hr (he x (by simp [Op.operands]))
 | indexAddr t x i => exact g_indexAddr hr (he x (by simp [Op.operands])) (he i (by simp [Op.operands]))
 | index t x i => exact g_index hr (he x (by simp [Op.operands])) (he i (by simp [Op.operands]))
 | build t ps => exact g_build hr (partsR_map fun p hp => he p.2 (by simp [Op.operands]; exact ⟨p.1, by simpa using hp⟩))
 | buildSlice t n ps => exact g_buildSlice hr hd (partsR_map fun p hp => he p.2 (by simp [Op.operands]; exact ⟨p.1, by simpa using hp⟩))
 | makeFunc f first cap =>
  have := g_makeFunc (P := P) (w0 := w0) (ro := ro) (c := c) (f := f) hr (vl_map (l := first.toList) fun x hx => he x (by simp [Op.operands]; exact .inl (by simpa using hx))) (vl_map (l := cap.toList) fun x hx => he x (by simp [Op.operands]; exact .inr (by simpa using hx)));rw [← Array.toList_map, ← Array.toList_map] at this;exact this
 | makeMap t r => exact g_makeMap hr hd
 | lookup t m k ok => exact g_lookup hr (he m (by simp [Op.operands])) (he k (by simp [Op.operands]))
 | mapUpdate t m k v => exact g_mapUpdate hr hd hct (he m (by simp [Op.operands])) (he k (by simp [Op.operands])) (he v (by simp [Op.operands]))
 | range t x => exact g_range hr hd (he x (by simp [Op.operands]))
 | next i str => exact g_next hr hd hct (he i (by simp [Op.operands]))
 | entry i => exact g_entry hr (he i (by simp [Op.operands]))
 | makeSlice t l cp => exact g_makeSlice hr hd (he l (by simp [Op.operands])) (he cp (by simp [Op.operands]))
 | slice t x lo hi mx =>
  refine g_slice hr (he x (by simp [Op.operands])) (or_map fun y hy => he y ?_) (or_map fun y hy => he y ?_) (or_map fun y hy => he y ?_)
  all_goals subst hy; simp [Op.operands]
 | extract x i => exact g_extract hr (he x (by simp [Op.operands]))
 | call cl =>
  obtain ⟨callee, as, ts⟩ := cl
  have hal : VL w ρ (mapL ev as) (as.map e).toList := by
   rw [Array.toList_map];exact vl_map fun x hx => he x (by simp [Op.operands, Call.operands]; exact .inr (by simpa using hx))
  cases callee with
  | invoke _ _ => trivial
  | value f =>
   have hf := he f (by simp [Op.operands, Call.operands]);show Good _ _ _ _ _ _ _ (oCall (ev f) (mapL ev as));unfold oCall
   split
   ·rename_i f' hfe
    rw [hfe] at hf;have := hf.lit_inv;exact ⟨(as.map e).toList, by simp [execOp, resolve, this, Deferred.ofValue, invoke, ← Array.toList_map], hal⟩
   ·rename_i f' first cap hfe
    rw [hfe] at hf;generalize hu : e f = u at hf
    cases hf with
    | @fn _ _ _ fs cs h1 h2 =>
     have harr : (fs ++ (as.map e).toList ++ cs).toArray = fs.toArray ++ (as.map e ++ cs.toArray) := by apply Array.ext'; simp
     exact ⟨fs ++ (as.map e).toList ++ cs, by rw [harr]; simp [execOp, resolve, hu, Deferred.ofValue, invoke], (h1.append hal).append h2⟩
   ·rename_i id hfe
    rw [hfe] at hf;generalize hu : e f = u at hf
    cases hf with
    | @yd _ l h1 => exact ⟨l, (as.map e).toList, h1, by simp [execOp, resolve, hu, Deferred.ofValue, invoke, ← Array.toList_map], hal⟩
   ·trivial
  | builtin b =>
   obtain ⟨ks, hrun⟩ : ∃ ks, execOp e ⟨dst, .call ⟨.builtin b, as, ts⟩, type, pos, after, guard⟩ = builtin b ts type ks (as.map e) := ⟨_, rfl⟩;show Good _ _ _ _ _ _ _ (oBuiltin P h c ro b (mapL ev as) ts.toList);rw [hrun]
   have tsl : ∀ {t : TypeId}, ts.toList = [t] → ts = #[t] := fun h => by rw [← Array.toArray_toList (xs := ts), h]
   have tsl2 : ∀ {t u : TypeId}, ts.toList = [t, u] → ts = #[t, u] := fun h => by rw [← Array.toArray_toList (xs := ts), h]
   generalize hvl : mapL ev as = vl at hal;generalize hul : (as.map e) = ul at hal ⊢
   have ul1 : ∀ {u : Value}, ul.toList = [u] → ul = #[u] := fun h => by rw [← Array.toArray_toList (xs := ul), h]
   have ul2 : ∀ {u v : Value}, ul.toList = [u, v] → ul = #[u, v] := fun h => by rw [← Array.toArray_toList (xs := ul), h]
   generalize hl : ul.toList = us at hal
   cases b with
   | len =>
    show Good _ _ _ _ _ _ _ (oLen P h c vl ts.toList);unfold oLen
    split
    ·rename_i x t hts
     cases hal with
     | cons hx htl =>
      cases htl
      rw [ul1 hl, tsl hts];exact g_lenV hr hx
    ·trivial
   | append =>
    show Good _ _ _ _ _ _ _ (oAppend P h c ro vl ts.toList);unfold oAppend
    split
    ·rename_i s x t t' hts
     cases htt : Nat.beq t t' with
     | false => trivial
     | true =>
      have := Nat.eq_of_beq_eq_true htt;subst this;rw [cond_true]
      cases hal with
      | cons hs htl =>
       cases htl with
       | cons hx htl2 =>
        cases htl2
        rw [ul2 hl, tsl2 hts]
        cases hn : isNil x with
        | true => exact g_appNil hr hs hx hn
        | false => exact g_append hr hd hs hx
    ·trivial
   | max =>
    show Good _ _ _ _ _ _ _ (oMM h c true vl)
    cases hal with
    | nil => trivial
    | cons hx htl =>
     cases htl with
     | nil => unfold oMM; split <;> first | trivial | (rename_i hh; simp at hh)
     | cons hy htl2 =>
      cases htl2 with
      | nil => rw [ul2 hl]; exact g_max hr hx hy
      | cons _ _ => unfold oMM; split <;> first | trivial | (rename_i hh; simp at hh)
   | min =>
    show Good _ _ _ _ _ _ _ (oMM h c false vl)
    cases hal with
    | nil => trivial
    | cons hx htl =>
     cases htl with
     | nil => unfold oMM; split <;> first | trivial | (rename_i hh; simp at hh)
     | cons hy htl2 =>
      cases htl2 with
      | nil => rw [ul2 hl]; exact g_min hr hx hy
      | cons _ _ => unfold oMM; split <;> first | trivial | (rename_i hh; simp at hh)
   | copy =>
    show Good _ _ _ _ _ _ _ (oCopy P h c ro vl ts.toList)
    cases hal with
    | nil => trivial
    | cons hx htl =>
     cases htl with
     | nil => trivial
     | cons hy htl2 =>
      cases htl2 with
      | nil =>
       rcases hts : ts.toList with _ | ⟨t, _ | ⟨t2, _ | _⟩⟩
       ·trivial
       ·trivial
       ·rw [ul2 hl, tsl2 hts]; exact g_copy hr hd hct hx hy
       ·trivial
      | cons _ _ => unfold oCopy; rcases ts.toList with _ | ⟨t, _ | ⟨t2, _ | _⟩⟩ <;> trivial
   | clear =>
    show Good _ _ _ _ _ _ _ (oClear P h c ro vl ts.toList)
    cases hal with
    | nil => trivial
    | cons hx htl =>
     cases htl with
     | nil =>
      rcases hts : ts.toList with _ | ⟨t, _ | _⟩
      ·unfold oClear; split <;> first | trivial | (rename_i hh; simp at hh)
      ·rw [ul1 hl, tsl hts]; exact g_clear hr hd hct hx
      ·unfold oClear; split <;> first | trivial | (rename_i hh; simp at hh)
     | cons _ _ => unfold oClear; split <;> first | trivial | (rename_i hh _; simp at hh)
   | _ => trivial
 | _ => trivial
end
end Go.Ex
namespace Go.Ex
section
variable {P : Program} {gl : Nat → Bool}
theorem opnds_eq (s : S) : ∀ l : List Operand, (opnds gl l).run s = l.map fun x => (opnd gl x).run s
 | [] => rfl
 | x :: l => by
  show (opnd gl x).run s :: (opnds gl l).run s = _;rw [opnds_eq s l]; rfl
theorem parts_eq (s : S) : ∀ l : List (Nat × Operand), (parts gl l).run s = l.map fun p => (p.1, (opnd gl p.2).run s)
 | [] => rfl
 | (i, x) :: l => by
  show (i, (opnd gl x).run s) :: (parts gl l).run s = _;rw [parts_eq s l]; rfl
theorem opndO_eq (s : S) (x : Option Operand) : (opndO gl x).run s = x.map fun x => (opnd gl x).run s := by cases x <;> rfl
theorem comp_eq (op : Op) (ro : Nat) (s : S) : (comp P gl op).run ro s = iop P s.h s.c ro op (fun x => (opnd gl x).run s) := by
 cases op with
 | build t ps => show oBuild _ _ _ _ _ = _; rw [parts_eq]; rfl
 | buildSlice t n ps => show oBuildSlice _ _ _ _ _ _ = _; rw [parts_eq]; rfl
 | makeFunc f first cap => show oMakeFunc _ _ _ _ _ = _; rw [opnds_eq, opnds_eq]; rfl
 | slice t x lo hi mx => show oSlice _ _ _ _ _ _ _ _ = _; rw [opndO_eq, opndO_eq, opndO_eq]; rfl
 | call cl =>
  obtain ⟨callee, as, ts⟩ := cl
  cases callee with
  | value f => show oCall _ _ = _; rw [opnds_eq]; rfl
  | invoke _ _ => rfl
  | builtin b => show oBuiltin _ _ _ _ _ _ _ = _; rw [opnds_eq]; rfl
 | _ => rfl
def DefOk (m : Nat) (ρ : Rh) (w : World) (ds : List Deferred) : Prop := ds.Nodup ∧ ∀ d ∈ ds, ∃ D, d = { target := .collected D, args := #[] } ∧ m ≤ D ∧ w.heap[D]? = some (.deferred (some [])) ∧ ∀ id l, ρ id = some l → l.b ≠ D
theorem DefOk.nil {m : Nat} {ρ : Rh} {w : World} : DefOk m ρ w [] := ⟨.nil, fun _ h => by cases h⟩
theorem DefOk.ext {m ro c c' : Nat} {ρ ρ' : Rh} {w w' : World} {ds : List Deferred} (h : DefOk m ρ w ds) (e : Ext ro c ρ w ρ' w' c') : DefOk m ρ' w' ds := ⟨h.1, fun d hd => by
 obtain ⟨D, h1, h2, h3, h4⟩ := h.2 d hd;have hlt : D < w.heap.size := (Array.getElem?_eq_some_iff.1 h3).1;refine ⟨D, h1, h2, (e.frame D hlt fun id l _ hl => h4 id l hl).trans h3, fun id l hl he => ?_⟩
 rcases e.fresh id l hl with k | ⟨_, _, k | ⟨id0, l0, _, k1, k2⟩⟩
 ·exact h4 id l k he
 ·omega
 ·exact h4 id0 l0 k1 (k2.trans he)⟩
structure SR (w0 : World) (gl : Nat → Bool) (n m : Nat) (ρ : Rh) (s : S) (a : Act) (w : World) : Prop where
 defers : DefOk m ρ w a.defers
 size : a.tmps.size = n
 rel : Rel w0 ρ s.h w
 dom : Dom ρ s.c
 top : s.c ≤ 1048576
 glob : ∀ g, gl g = true → ρ g = some ⟨g, 0⟩
 mbl : m ≤ w.heap.size
 tmps : ∀ i, VR w ρ (tmpV (s.t.get i)) (a.tmps.getD i undef)
theorem opnd_ok {w0 : World} {n m : Nat} {ρ : Rh} {s : S} {a : Act} {w : World} (h : SR w0 gl n m ρ s a w) (x : Operand) : VR w ρ ((opnd gl x).run s) (a.eval x) := by
 cases x with
 | tmp i => exact h.tmps i
 | const v => exact .lit v
 | func f => exact .lit _
 | global g =>
  show VR w ρ (bif gl g then V.ptr g 0 else .lit (.pointer (some ⟨g, 0, none⟩))) _
  cases hg : gl g with
  | false => exact .lit _
  | true =>
   have := VR.ptr (w := w) (off := 0) (h.glob g hg);exact this
theorem putObj_turn {w : World} {l : Nat} {o o' : Obj} (h : w.heap[l]? = some o) (hn : ∀ a b c, o ≠ .cells a b c) : Turn w l (w.putObj l o') where
 size := World.putObj_size
 os := rfl
 tape := rfl
 output := rfl
 other := fun x hx => World.putObj_heap_other hx
 shape := fun vs t fr hh => by rw [h] at hh; cases hh; exact absurd rfl (hn _ _ _)
theorem DefOk.turn {m b : Nat} {ρ : Rh} {w w' : World} {ds : List Deferred} (h : DefOk m ρ w ds) (t : Turn w b w') {id : Nat} {l : Loc} (hl : ρ id = some l) (hb : l.b = b) : DefOk m ρ w' ds := ⟨h.1, fun d hd => by
 obtain ⟨D, h1, h2, h3, h4⟩ := h.2 d hd
 exact ⟨D, h1, h2, (t.other D fun e => h4 id l hl (hb.trans e.symm)).trans h3, h4⟩⟩
def Fr (r : Option Nat) : Fence := { fn := fun _ => True, depth := none, alive := false, round := r }
theorem callsIn_fr {r : Option Nat} {n : Nat} {f : FuncId} {args : Array Value} {w : World} {R : Ending → World → Prop} (h : Calls P f args w R) : CallsIn (Fr r) n P f args w R := by
 have h1 : CallsIn Fence.wide n P f args w R := callsIn_wide.2 h
 cases r with
 | none => exact h1
 | some l => exact CallsIn.inRound l h1
theorem fr_room {r : Option Nat} {n : Nat} : (Fr r).depth.isSome = true → 1 ≤ n := fun h => by simp [Fr] at h
def Yields (P : Program) (l : Nat) (args : Array Value) (w : World) (R : Ending → World → Prop) : Prop :=
 ∃ fn tmps assign body, (Instr.yield l args).run P w = .ok (.round l fn tmps assign body) w ∧ RoundIn Fence.wide 0 P l fn tmps assign body w R
theorem roundIn_fr {r : Option Nat} {n : Nat} {l : Nat} {f : FuncId} {tmps : Array Value} {assign body : Code} {w : World} {R : Ending → World → Prop} (h : RoundIn Fence.wide n P l f tmps assign body w R) : RoundIn (Fr r) n P l f tmps assign body w R := by
 cases r with
 | none => exact h
 | some l => exact h
end
end Go.Ex
namespace Go.Ex
section
variable {P : Program} {gl : Nat → Bool} {GW : World → Prop} {ck : CallK} {n : Nat} {w0 : World} {ops : Array Oper} {ro mb : Nat} {r : Option Nat}
abbrev Left (w0 : World) (ro c : Nat) (ρ : Rh) (w : World) (v : V) (h' : H) (c' : Nat) : Ending → World → Prop := fun e w' => ∃ u ρ', e = .returned u ∧ Rel w0 ρ' h' w' ∧ Ext ro c ρ w ρ' w' c' ∧ VR w' ρ' v u
structure CKok (P : Program) (gl : Nat → Bool) (GW : World → Prop) (ck : CallK) : Prop where
 fn : ∀ f as h c ro v h' c', ck (.fn f) as h c ro = .ok (v, h', c') → Sim.Known P f ∧
  ∀ w0 ρ w (args : List Value), GW w0 → Rel w0 ρ h w → Dom ρ c → c ≤ 1048576 → (∀ g, gl g = true → ρ g = some ⟨g, 0⟩) → VL w ρ as args →
   Calls P f args.toArray w (Left w0 ro c ρ w v h' c')
 yd : ∀ id as h c ro v h' c', ck (.yd id) as h c ro = .ok (v, h', c') →
  ∀ w0 ρ w (args : List Value) (l : Loc), GW w0 → Rel w0 ρ h w → Dom ρ c → c ≤ 1048576 → (∀ g, gl g = true → ρ g = some ⟨g, 0⟩) → ρ id = some l → VL w ρ as args →
   Yields P l.b args.toArray w (Left w0 ro c ρ w v h' c')
theorem semAt_fr {r : Option Nat} {e : Operand → Value} {o : Oper} {w w' : World} {nx : Next} (h : (execOp e o).run P w = .ok nx w') (hd : ∀ d, nx ≠ .defer d) : o.semAt (Fr r).round e = execOp e o := by
 cases r with
 | none => rfl
 | some l =>
  refine Oper.semAt_some l _ _ fun c hc => ?_;simp only [execOp, hc, Sem.run_bind] at h
  cases hq : (resolve e c o.type).run P w with
  | ok d w'' => rw [hq] at h; simp at h; exact absurd h.1.symm (hd d)
  | halt x w'' => rw [hq] at h; cases h
theorem put_ok (hn : n ≤ 1048576) {ρ ρ' : Rh} {s s' : S} {a : Act} {w w' : World} {dst : Option Nat} {pos : String} {v : V} {u : Value} {h' : H} {c' : Nat} (hs : SR w0 gl n mb ρ s a w) (hp : compPut n dst pos s v h' c' = .ok s')
  (hr : Rel w0 ρ' h' w') (he : Ext ro s.c ρ w ρ' w' c') (hv : VR w' ρ' v u) : SR w0 gl n mb ρ' s' (a.put dst u) w' ∧ s'.c = c' := by
 unfold compPut at hp
 cases dst with
 | none =>
  simp only [Re.ok.injEq] at hp;subst hp;exact ⟨⟨hs.defers.ext he, hs.size, hr, he.dom hs.dom, he.cap hs.top, fun g hg => he.sub _ _ (hs.glob g hg), Nat.le_trans hs.mbl he.size, fun i => he.vr (hs.tmps i)⟩, rfl⟩
 | some d =>
  dsimp only at hp
  cases hd : Nat.blt d n with
  | false => rw [hd] at hp; cases hp
  | true =>
   rw [hd, cond_true] at hp;simp only [Re.ok.injEq] at hp;subst hp;have hdn : d < n := Nat.le_of_ble_eq_true hd;refine ⟨⟨by rw [Sim.defers_put]; exact hs.defers.ext he, by rw [Sim.size_put]; exact hs.size, hr, he.dom hs.dom, he.cap hs.top, fun g hg => he.sub _ _ (hs.glob g hg), Nat.le_trans hs.mbl he.size, fun i => ?_⟩, rfl⟩;rw [Sim.getD_put _ _ _ (fun d' h => by cases h; rw [hs.size]; exact hdn)];have hgs : (Tr.setP v (path d) s.t).get i = if i = d then some v else s.t.get i := get_set (t := s.t) (m := i) (by omega);rw [hgs]
   by_cases hi : i = d
   ·subst hi; simp only [if_true]; exact hv
   ·rw [if_neg hi, if_neg (by simp; omega)];exact he.vr (hs.tmps i)
theorem stepR_ok (hn : n ≤ 1048576) (hgw : GW w0) (hck : CKok P gl GW ck) {o : Oper} {ρ : Rh} {s s' : S} {a : Act} {w : World} (hs : SR w0 gl n mb ρ s a w) (hrun : stepR n ck o ro s ((comp P gl o.op).run ro s) = .ok s') {K : Act → World → Prop} {Q : Exit → Act → World → Prop}
  (hK : ∀ ρ' a' w', SR w0 gl n mb ρ' s' a' w' → Ext ro s.c ρ w ρ' w' s'.c → K a' w') : o.wpIn (Fr r) 0 P a w K Q := by
 have hg := iop_sound (P := P) (ro := ro) (o := o) (e := a.eval) hs.rel hs.dom hs.top (fun x _ => opnd_ok hs x);rw [comp_eq] at hrun;unfold stepR at hrun
 cases hi : iop P s.h s.c ro o.op (fun x => (opnd gl x).run s) with
 | none => rw [hi] at hrun; cases hrun
 | some r =>
  rw [hi] at hrun hg
  cases r with
  | val v h' c' =>
   dsimp only at hrun;have hg' : UponE w0 ro s.c ρ w v h' c' ((execOp a.eval o).run P w) := hg;refine ⟨fun _ _ => trivial, ?_⟩
   cases hres : (execOp a.eval o).run P w with
   | halt => rw [hres] at hg'; exact hg'.elim
   | ok nx w' =>
    rw [hres] at hg';rw [semAt_fr hres (fun d hd => by rw [hd] at hg'; exact hg'.elim), hres]
    cases nx <;> simp only [UponE] at hg' <;> simp only [Oper.uponIn]
    case value u =>
     obtain ⟨ρ', h1, h2, h3⟩ := hg';obtain ⟨g1, g2⟩ := put_ok hn hs hrun h1 h2 h3;exact hK ρ' _ _ g1 (by rw [g2]; exact h2)
    case skip =>
     obtain ⟨ρ', h1, h2, h3⟩ := hg';obtain ⟨g1, g2⟩ := put_ok hn hs hrun h1 h2 h3;exact hK ρ' _ _ g1 (by rw [g2]; exact h2)
  | call f as =>
   dsimp only at hrun
   cases hc : ck (.fn f) as s.h s.c ro with
   | no why => rw [hc] at hrun; cases hrun
   | ok vhc =>
    obtain ⟨v, h', c'⟩ := vhc;rw [hc] at hrun;dsimp only at hrun;obtain ⟨args, g1, g2⟩ : ∃ args : List Value, (execOp a.eval o).run P w = (callFunc f args.toArray).run P w ∧ VL w ρ as args := hg;obtain ⟨⟨fn, k1, k2, k3⟩, hcall⟩ := hck.fn f as s.h s.c ro v h' c' hc;have hcl := hcall w0 ρ w args hgw hs.rel hs.dom hs.top hs.glob g2;refine ⟨fun _ _ => trivial, ?_⟩;have hres := g1.trans (Sim.run_callFunc k1 k2 k3 (w := w) (args := args.toArray));rw [semAt_fr hres (fun d hd => by cases hd), hres];simp only [Oper.uponIn];refine ⟨fr_room, callsIn_fr (hcl.mono ?_)⟩;rintro e w' ⟨u, ρ', rfl, h1, h2, h3⟩;obtain ⟨g3, g4⟩ := put_ok hn hs hrun h1 h2 h3;exact hK ρ' _ _ g3 (by rw [g4]; exact h2)
  | yield id as =>
   dsimp only at hrun
   cases hc : ck (.yd id) as s.h s.c ro with
   | no why => rw [hc] at hrun; cases hrun
   | ok vhc =>
    obtain ⟨v, h', c'⟩ := vhc;rw [hc] at hrun;dsimp only at hrun;obtain ⟨l, args, g0, g1, g2⟩ : ∃ (l : Loc) (args : List Value), ρ id = some l ∧ (execOp a.eval o).run P w = (Instr.yield l.b args.toArray).run P w ∧ VL w ρ as args := hg;obtain ⟨fn, tmps, assign, body, q1, q2⟩ := hck.yd id as s.h s.c ro v h' c' hc w0 ρ w args l hgw hs.rel hs.dom hs.top hs.glob g0 g2;refine ⟨fun _ _ => trivial, ?_⟩;have hres := g1.trans q1;rw [semAt_fr hres (fun d hd => by cases hd), hres];simp only [Oper.uponIn];refine ⟨fr_room, roundIn_fr (q2.mono ?_)⟩;rintro e w' ⟨u, ρ', rfl, h1, h2, h3⟩;obtain ⟨g3, g4⟩ := put_ok hn hs hrun h1 h2 h3;exact hK ρ' _ _ g3 (by rw [g4]; exact h2)
theorem step_ok (hn : n ≤ 1048576) (hgw : GW w0) (hck : CKok P gl GW ck) {o : Oper} {ρ : Rh} {s s' : S} {a : Act} {w : World} (hs : SR w0 gl n mb ρ s a w) (hrun : (compOp P gl n ck ops o).run ro s = .ok s') {K : Act → World → Prop} {Q : Exit → Act → World → Prop}
  (hK : ∀ ρ' a' w', SR w0 gl n mb ρ' s' a' w' → Ext ro s.c ρ w ρ' w' s'.c → K a' w') :
  if Region.wanted o (yielded ops a.tmps) then o.wpIn (Fr r) 0 P a w K Q else (∀ f, o.about P w a.eval = some f → (Fr r).fn f) ∧ K (a.put o.dst undef) w := by
 unfold compOp at hrun
 cases hg : o.guard with
 | none =>
  rw [hg] at hrun;dsimp only at hrun
  have : Region.wanted o (yielded ops a.tmps) = true := by simp [Region.wanted, hg]
  rw [this];simp only [if_true];exact stepR_ok hn hgw hck hs hrun hK
 | some jw =>
  obtain ⟨j, want⟩ := jw;rw [hg] at hrun;dsimp only at hrun
  have key : ∀ b, (compW ops o).run s = some b → Region.wanted o (yielded ops a.tmps) = b := by
   intro b hb;unfold compW at hb;rw [hg] at hb;dsimp only at hb
   cases hd : (ops[j]?).bind (·.dst) with
   | none => rw [hd] at hb; cases hb
   | some d =>
    rw [hd] at hb;dsimp only at hb;have ht := hs.tmps d;rw [Array.getD_eq_getD_getElem?] at ht;have hb' : isWant want (tmpV (s.t.get d)) = some b := hb;unfold Region.wanted;simp only [hg, yielded, hd, Option.bind_some];unfold isWant at hb'
    split at hb'
    ·rename_i b0 hv
     rw [hv] at ht;have := ht.lit_inv
     cases hq : a.tmps[d]? with
     | none => rw [hq] at this; simp [undef] at this
     | some x =>
      rw [hq] at this;simp only [Option.getD_some] at this;subst this
      simpa using hb'
    ·rename_i v0 hnb hv
     rw [hv] at ht;have := ht.lit_inv;simp only [Option.some.injEq] at hb';subst hb'
     cases hq : a.tmps[d]? with
     | none => rfl
     | some x =>
      rw [hq] at this;simp only [Option.getD_some] at this;subst this
      cases x <;> first | rfl | exact absurd rfl (hnb _)
    ·cases hb'
  unfold guarded at hrun
  cases hw : (compW ops o).run s with
  | none => rw [hw] at hrun; cases hrun
  | some b =>
   rw [hw] at hrun;rw [key b hw]
   cases b with
   | true =>
    simp only [if_true];exact stepR_ok hn hgw hck hs hrun hK
   | false =>
    simp only [Bool.false_eq_true, if_false];dsimp only at hrun;obtain ⟨g1, g2⟩ := put_ok (ro := ro) hn hs hrun hs.rel Ext.refl (.lit undef);exact ⟨fun _ _ => trivial, hK ρ _ _ g1 (by rw [g2]; exact Ext.refl)⟩
theorem steps_ok (hn : n ≤ 1048576) (hgw : GW w0) (hck : CKok P gl GW ck) {Q : Exit → Act → World → Prop} : ∀ (l : List Oper) {ρ : Rh} {s s' : S} {a : Act} {w : World}, SR w0 gl n mb ρ s a w → (compOps P gl n ck ops l).run ro s = .ok s' →
  (∀ ρ' a' w', SR w0 gl n mb ρ' s' a' w' → Ext ro s.c ρ w ρ' w' s'.c → Q .normal a' w') → wpListIn (Fr r) 0 P ops Q l a w
 | [], ρ, s, s', a, w, hs, hrun, hQ => by
  simp only [compOps, Re.ok.injEq] at hrun;subst hrun;exact hQ ρ a w hs Ext.refl
 | o :: l, ρ, s, s', a, w, hs, hrun, hQ => by
  simp only [compOps] at hrun
  cases h1 : (compOp P gl n ck ops o).run ro s with
  | no why => rw [h1] at hrun; cases hrun
  | ok s1 =>
   rw [h1] at hrun;have hrun' : (compOps P gl n ck ops l).run ro s1 = .ok s' := hrun;exact step_ok hn hgw hck hs h1 fun ρ1 a1 w1 hs1 he1 => steps_ok hn hgw hck l hs1 hrun' fun ρ' a' w' hs' he' => hQ ρ' a' w' hs' (he1.trans he')
end
end Go.Ex
namespace Go.Ex
section
variable {P : Program} {gl : Nat → Bool} {GW : World → Prop} {ck : CallK} {n : Nat} {w0 : World} {ro mb : Nat}
def DrawOk (P : Program) (gl : Nat → Bool) (ck : CallK) (n mb : Nat) (w0 : World) (ro : Nat) : Prop := ∀ (r : Option Nat) (ops : Array Oper) (Q : Exit → Act → World → Prop) (ρ : Rh) (s s' : S) (a : Act) (w : World), orderOk ops = true → SR w0 gl n mb ρ s a w →
 (compOpsD P gl n ck ops ops.toList 0).run s.c ro s = .ok s' → (∀ ρ' a' w', SR w0 gl n mb ρ' s' a' w' → Ext ro s.c ρ w ρ' w' s'.c → Q .normal a' w') → wpAnyIn (Fr r) 0 P .any ops Q ops.size (Array.replicate ops.size false) a { w with drawn := w.drawn + 1 }
def CodeOk (P : Program) (gl : Nat → Bool) (n mb : Nat) (w0 : World) (ro : Nat) (rd : Bool) (c : Code) (f : S → Re (Exit × S)) : Prop := ∀ (r : Option Nat), (rd = false → r = none) → ∀ {ρ : Rh} {s s' : S} {a : Act} {w : World} {x : Exit}, SR w0 gl n mb ρ s a w → f s = .ok (x, s') →
 c.wpIn (Fr r) 0 P (fun x' a' w' => x' = x ∧ ∃ ρ', SR w0 gl n mb ρ' s' a' w' ∧ Ext ro s.c ρ w ρ' w' s'.c) a w
theorem then_ok {x : Re (Exit × S)} {k : S → Re (Exit × S)} {r : Exit × S} (h : thenC x k = .ok r) : (∃ s, x = .ok (.normal, s) ∧ k s = .ok r) ∨ (x = .ok r ∧ r.1 ≠ .normal) := by
 unfold thenC at h
 split at h
 ·exact .inl ⟨_, rfl, h⟩
 ·rename_i hno
  subst h;refine .inr ⟨rfl, fun e => ?_⟩;obtain ⟨e1, s1⟩ := r;simp only at e;subst e;exact hno s1 rfl
theorem range_ok (hn : n ≤ 1048576) (hgw : GW w0) (hck : CKok P gl GW ck) {ρ : Rh} {s s' : S} {a : Act} {w : World} {x : Exit} {g : Operand} {p : Nat} {asg body : Code} {f : FuncId} {as : List V} (hs : SR w0 gl n mb ρ s a w) (hp : p < n) (hct : s.c < 1048576)
  (hto : rangeTo (.yd s.c) ((opnd gl g).run s) = some (f, as)) (h : endRange s (ck (.fn f) as (hset s.h s.c (.loop n s.t p asg body .ready none)) (s.c + 1) ro) = .ok (x, s')) :
  (Code.rangeFunc g #[p] asg body).wpIn (Fr none) 0 P (fun x' a' w' => x' = x ∧ ∃ ρ', SR w0 gl n mb ρ' s' a' w' ∧ Ext ro s.c ρ w ρ' w' s'.c) a w := by
 have hg := opnd_ok hs g
 -- where it leads
 obtain ⟨caps, cs, hge, hcs, rfl⟩ : ∃ (caps : List V) (cs : List Value), a.eval g = .func (.func f) #[] cs.toArray ∧ VL w ρ caps cs ∧ as = .yd s.c :: caps := by
  unfold rangeTo at hto
  split at hto
  ·rename_i f' hv
   simp only [Option.some.injEq, Prod.mk.injEq] at hto;obtain ⟨rfl, rfl⟩ := hto;rw [hv] at hg;exact ⟨[], [], hg.lit_inv, .nil, rfl⟩
  ·rename_i f' cap hv
   simp only [Option.some.injEq, Prod.mk.injEq] at hto;obtain ⟨rfl, rfl⟩ := hto;rw [hv] at hg;generalize hu : a.eval g = u at hg
   cases hg with
   | @fn _ _ _ fs cs h1 h2 =>
    cases h1
    exact ⟨cap, cs, rfl, h2, rfl⟩
  ·cases hto
 unfold endRange at h
 split at h
 ·cases h
 ·rename_i v h2 c2 hcl
  obtain ⟨⟨fng, k1, k2, k3⟩, hcall⟩ := hck.fn f _ _ _ _ _ _ _ hcl;refine wpIn_rangeFunc ?_;intro fn _;obtain ⟨rc, hrc⟩ : ∃ rc : Loop, rc = { state := .ready, pending := none, fn, tmps := a.tmps, params := #[p], assign := asg, body, defers := w.heap.size } := ⟨_, rfl⟩;obtain ⟨w1, hw1⟩ : ∃ w1, w.alloc (.deferred (some [])) = w1 := ⟨_, rfl⟩
  have hsz1 : w1.heap.size = w.heap.size + 1 := by rw [← hw1]; simp
  have hfm1 : ∀ b, b < w.heap.size → w1.heap[b]? = w.heap[b]? := fun b hb => by rw [← hw1]; exact RowKit.Below.heap_alloc w _ b hb
  have hgr : Sim.Grow w w1 := by rw [← hw1]; exact Sim.Grow.alloc w _
  have hr1 : Rel w0 ρ s.h w1 := hs.rel.still (RowKit.Below.trans hs.rel.below (RowKit.Below.mono hgr hs.rel.below.size)) (by omega) hfm1;have he1 : Ext ro s.c ρ w ρ w1 s.c := ⟨fun _ _ h => h, by omega, still_shape hfm1, hgr.os, hgr.tape, hgr.output, fun b hb _ => hfm1 b hb, fun _ _ h => .inl h, Nat.le_refl _, fun h => h⟩;obtain ⟨w2, hw2⟩ : ∃ w2, w1.alloc (.loop rc) = w2 := ⟨_, rfl⟩
  have hL : w2.heap[w1.heap.size]? = some (.loop rc) := by rw [← hw2]; exact World.alloc_heap_new w1 _
  have hD1 : w1.heap[w.heap.size]? = some (.deferred (some [])) := by rw [← hw1]; exact World.alloc_heap_new w _
  have he2 : Ext ro s.c ρ w1 (upd ρ s.c ⟨w1.heap.size, 0⟩) w2 (s.c + 1) := by rw [← hw2]; exact ext_new hs.dom hct _
  have hr2 : Rel w0 (upd ρ s.c ⟨w1.heap.size, 0⟩) (hset s.h s.c (.loop n s.t p asg body .ready none)) w2 := by
   rw [← hw2];refine rel_new hr1 hs.dom hct _ _ ?_;rw [hw2];refine ⟨rc, hL, rfl, by rw [hrc], by rw [hrc], by rw [hrc], by rw [hrc], by rw [hrc], by rw [hrc]; exact hs.size, hp, hn, fun i => ?_⟩;rw [hrc];exact he2.vr (he1.vr (hs.tmps i))
  have hD2 : w2.heap[w.heap.size]? = some (.deferred (some [])) := by rw [← hw2]; exact (RowKit.Below.heap_alloc w1 _ _ (by omega)).trans hD1
  have hrun : (Instr.enterLoop fn a.tmps #[p] asg body (Fr none).round).run P w = .ok (w1.heap.size, [{ target := .collected w.heap.size, args := #[] }]) w2 := by
   rw [← hw2, hrc, ← hw1, World.size_alloc]; exact run_enterLoop_outer _ _ _ _ _
  have hd2 : DefOk mb (upd ρ s.c ⟨w1.heap.size, 0⟩) w2 ({ target := .collected w.heap.size, args := #[] } :: a.defers) := by
   have h0 := (hs.defers.ext he1).ext he2;refine ⟨List.nodup_cons.2 ⟨fun hm => ?_, h0.1⟩, fun d hd => ?_⟩
   ·obtain ⟨D, q1, _, q2, _⟩ := hs.defers.2 _ hm;have := (Array.getElem?_eq_some_iff.1 q2).1;simp only [Deferred.mk.injEq, Target.collected.injEq, and_true] at q1
    omega
   ·rcases List.mem_cons.1 hd with rfl | hd
    ·refine ⟨_, rfl, hs.mbl, hD2, fun id l hl e => ?_⟩;simp only [upd] at hl
     split at hl
     ·cases hl; dsimp only at e; omega
     ·obtain ⟨_, _, q, _⟩ := hs.rel.blk id l hl; omega
    ·exact h0.2 d hd
  have hsub : (upd ρ s.c ⟨w1.heap.size, 0⟩) s.c = some ⟨w1.heap.size, 0⟩ := by simp [upd]
  have hcl2 := hcall w0 _ w2 (.func (.yield w1.heap.size) #[] #[] :: cs) hgw hr2 (he2.dom hs.dom) (by omega) (fun g hg => he2.sub _ _ (hs.glob g hg)) (.cons (VR.yd hsub) (he2.vl (he1.vl hcs)))
  refine ⟨w1.heap.size, [{ target := .collected w.heap.size, args := #[] }], w2, { target := .fn (.func f) cs.toArray, args := #[.func (.yield w1.heap.size) #[] #[]] }, w2, f,
   #[.func (.yield w1.heap.size) #[] #[]] ++ cs.toArray, w2, hrun, ?_, fun _ _ => trivial, ?_, fr_room, callsIn_fr ?_⟩
  ·simp only [resolve, hge]
   simp [go_sem]
  ·simp [invoke, go_sem, Sim.run_callFunc k1 k2 k3]
  have harr : #[Value.func (.yield w1.heap.size) #[] #[]] ++ cs.toArray = (Value.func (.yield w1.heap.size) #[] #[] :: cs).toArray := by simp
  rw [harr];refine hcl2.mono ?_;rintro e w3 ⟨u, ρ3, rfl, g1, g2, g3⟩;have hl3 : ρ3 s.c = some ⟨w1.heap.size, 0⟩ := g2.sub _ _ hsub;have key : ∀ n' t' p' a' b' st' pd', h2.get s.c = some (.loop n' t' p' a' b' st' pd') → st' ≠ .busy → ∀ e', jumpX pd' = some e' → .ok (e', ⟨s.t, hset h2 s.c .dead, c2⟩) = Re.ok (x, s') →
    rangePost (Fr none) 0 P w1.heap.size (fun x' a' w' => x' = x ∧ ∃ ρ', SR w0 gl n mb ρ' s' a' w' ∧ Ext ro s.c ρ w ρ' w' s'.c) { a with defers := [{ target := .collected w.heap.size, args := #[] }] ++ a.defers } (.returned u) w3 := by
   intro n' t' p' a' b' st' pd' hgl hst e' he' hfin;simp only [Re.ok.injEq, Prod.mk.injEq] at hfin;obtain ⟨rfl, rfl⟩ := hfin;obtain ⟨bb, q1, q2, q3, q4⟩ := g1.blk s.c _ hl3;rw [hgl] at q1
   cases q1
   obtain ⟨r3, r4, r5, r6, r7, _⟩ := q3;dsimp only at r4;have hend := run_endLoop (P := P) r4 (by rw [r6]; exact hst);have htn := putObj_turn (o' := .loop { r3 with state := .exhausted }) r4 (by simp);have hr4 : Rel w0 ρ3 (hset h2 s.c .dead) (w3.putObj w1.heap.size (.loop { r3 with state := .exhausted })) := rel_turn' g1 htn hl3 hgl rfl hct trivial;have he4 : Ext ro s.c ρ w ρ3 (w3.putObj w1.heap.size (.loop { r3 with state := .exhausted })) c2 := ((he1.trans he2).trans g2).fresh_turn htn (by omega)
   have hsr : SR w0 gl n mb ρ3 ⟨s.t, hset h2 s.c .dead, c2⟩ { a with defers := [{ target := .collected w.heap.size, args := #[] }] ++ a.defers } (w3.putObj w1.heap.size (.loop { r3 with state := .exhausted })) :=
    ⟨(hd2.ext g2).turn htn hl3 rfl, hs.size, hr4, he4.dom hs.dom, he4.cap hs.top, fun g hg => he4.sub _ _ (hs.glob g hg), Nat.le_trans hs.mbl he4.size, fun i => he4.vr (hs.tmps i)⟩
   refine ⟨pd', w3.putObj w1.heap.size (.loop { r3 with state := .exhausted }), by rw [hend, r7], ?_⟩;unfold jumpX at he'
   split at he'
   ·cases he'; exact ⟨rfl, ρ3, hsr, he4⟩
   ·cases he'; exact wpIn_ret ⟨rfl, ρ3, hsr, he4⟩
   ·cases he'; exact wpIn_exit ⟨rfl, ρ3, hsr, he4⟩
   ·cases he'
  split at h
  ·cases h
  ·rename_i n' t' p' a' b' st' pd' hnb hgl
   split at h
   ·rename_i e' he'
    exact key _ _ _ _ _ _ _ hgl hnb e' he' h
   ·cases h
  ·cases h
theorem code_ok (mo : P.follows .mixedOrders = true) (hn : n ≤ 1048576) (hgw : GW w0) (hck : CKok P gl GW ck) (hdr : DrawOk P gl ck n mb w0 ro) (rd : Bool) : ∀ c : Code, CodeOk P gl n mb w0 ro rd c ((compC P gl rd n ck c).run ro) := by
 intro c
 induction c with
 | skip => intro r hrd ρ s s' a w x hs h; cases h; exact wpIn_skip ⟨rfl, ρ, hs, Ext.refl⟩
 | label l => intro r hrd ρ s s' a w x hs h; cases h; exact wpIn_label ⟨rfl, ρ, hs, Ext.refl⟩
 | ret => intro r hrd ρ s s' a w x hs h; cases h; exact wpIn_ret ⟨rfl, ρ, hs, Ext.refl⟩
 | exit id => intro r hrd ρ s s' a w x hs h; cases h; exact wpIn_exit ⟨rfl, ρ, hs, Ext.refl⟩
 | region id ops draw =>
  intro r hrd ρ s s' a w x hs h
  cases draw with
  | false =>
   have h' : norm ((compOps P gl n ck ops ops.toList).run ro s) (fun s => Re.ok (Exit.normal, s)) = .ok (x, s') := h
   cases h1 : (compOps P gl n ck ops ops.toList).run ro s with
   | no why => rw [h1] at h'; cases h'
   | ok s1 =>
    rw [h1] at h'
    cases h'
    exact wpIn_region_list (steps_ok hn hgw hck _ hs h1 fun ρ' a' w' g1 g2 => ⟨rfl, ρ', g1, g2⟩)
  | true =>
   unfold compC at h
   cases ho : orderOk ops with
   | false => rw [ho] at h; cases h
   | true =>
    rw [ho] at h;have h' : norm ((compOpsD P gl n ck ops ops.toList 0).run s.c ro s) (fun s => Re.ok (Exit.normal, s)) = .ok (x, s') := h
    cases h1 : (compOpsD P gl n ck ops ops.toList 0).run s.c ro s with
    | no why => rw [h1] at h'; cases h'
    | ok s1 =>
     rw [h1] at h'
     cases h'
     exact wpIn_region_any mo (hdr r ops _ ρ s _ a w ho hs h1 fun ρ' a' w' g1 g2 => ⟨rfl, ρ', g1, g2⟩)
 | seq p q ihp ihq =>
  intro r hrd ρ s s' a w x hs h;have h' : thenC ((compC P gl rd n ck p).run ro s) (fun s => (compC P gl rd n ck q).run ro s) = .ok (x, s') := h;refine wpIn_seq ?_
  rcases then_ok h' with ⟨s1, h1, h2⟩ | ⟨h1, h2⟩
  ·refine wpIn_mono (ihp r hrd hs h1) ?_;rintro e a1 w1 ⟨rfl, ρ1, g1, g2⟩;refine wpIn_mono (ihq r hrd g1 h2) ?_;rintro e a2 w2 ⟨rfl, ρ2, g3, g4⟩;exact ⟨rfl, ρ2, g3, g2.trans g4⟩
  ·refine wpIn_mono (ihp r hrd hs h1) ?_;rintro e a1 w1 ⟨rfl, ρ1, g1, g2⟩
   cases e <;> first | exact absurd rfl h2 | exact ⟨rfl, ρ1, g1, g2⟩
 | cond v p q ihp ihq =>
  intro r hrd ρ s s' a w x hs h;have h' : condC ((opnd gl v).run s) ((compC P gl rd n ck p).run ro s) ((compC P gl rd n ck q).run ro s) = .ok (x, s') := h;have hv := opnd_ok hs v;unfold condC at h'
  split at h'
  ·rename_i hb; rw [hb] at hv
   exact wpIn_cond_true hv.lit_inv (ihp r hrd hs h')
  ·rename_i hb; rw [hb] at hv
   exact wpIn_cond_false hv.lit_inv (ihq r hrd hs h')
  ·cases h'
 | block id p ih =>
  intro r hrd ρ s s' a w x hs h;have h' : blockC id ((compC P gl rd n ck p).run ro s) = .ok (x, s') := h;refine wpIn_block ?_
  cases h1 : (compC P gl rd n ck p).run ro s with
  | no why => rw [h1] at h'; cases h'
  | ok r =>
   obtain ⟨e, s1⟩ := r;rw [h1] at h';refine wpIn_mono (ih r hrd hs h1) ?_;rintro e' a1 w1 ⟨rfl, ρ1, g1, g2⟩
   cases e' with
   | exit id' =>
    simp only [blockC] at h';unfold Exit.inBlock;dsimp only
    cases hb : Nat.beq id' id with
    | true =>
     rw [hb] at h'; cases h';rw [if_pos (Nat.eq_of_beq_eq_true hb)];exact ⟨rfl, ρ1, g1, g2⟩
    | false =>
     rw [hb] at h'; cases h';rw [if_neg (fun e => by rw [e, Nat.beq_refl] at hb; cases hb)];exact ⟨rfl, ρ1, g1, g2⟩
   | _ => simp only [blockC] at h'; cases h'; exact ⟨rfl, ρ1, g1, g2⟩
 | loop p ih =>
  intro r hrd ρ s s' a w x hs h;have h' : loopN (fun s => (compC P gl rd n ck p).run ro s) 100000 s = .ok (x, s') := h;refine wpIn_loop_rounds 100000 ?_;have key : ∀ (m : Nat) {ρ1 : Rh} {s1 : S} {a1 : Act} {w1 : World}, SR w0 gl n mb ρ1 s1 a1 w1 → Ext ro s.c ρ w ρ1 w1 s1.c → loopN (fun s => (compC P gl rd n ck p).run ro s) m s1 = .ok (x, s') →
    Code.roundsIn (Fr r) 0 P p (fun x' a' w' => x' = x ∧ ∃ ρ', SR w0 gl n mb ρ' s' a' w' ∧ Ext ro s.c ρ w ρ' w' s'.c) m a1 w1 := by
   intro m
   induction m with
   | zero => intro ρ1 s1 a1 w1 _ _ h; cases h
   | succ m ihm =>
    intro ρ1 s1 a1 w1 hs1 he1 h;have h2 : thenC ((compC P gl rd n ck p).run ro s1) (loopN (fun s => (compC P gl rd n ck p).run ro s) m) = .ok (x, s') := h;rw [roundsIn_succ]
    rcases then_ok h2 with ⟨s2, h3, h4⟩ | ⟨h3, h4⟩
    ·refine wpIn_mono (ih r hrd hs1 h3) ?_;rintro e a2 w2 ⟨rfl, ρ2, g1, g2⟩;exact ihm g1 (he1.trans g2) h4
    ·refine wpIn_mono (ih r hrd hs1 h3) ?_;rintro e a2 w2 ⟨rfl, ρ2, g1, g2⟩
     cases e <;> first | exact absurd rfl h4 | exact ⟨rfl, ρ2, g1, he1.trans g2⟩
  exact key 100000 hs Ext.refl h'
 | scope p ih =>
  intro r hrd ρ s s' a w x hs h
  cases rd with
  | true => cases h
  | false =>
  obtain rfl := hrd rfl;have h' : scopeC ((compC P gl false n ck p).run ro s) = .ok (x, s') := h;refine wpIn_wide.2 (wp_scope_straight ((wpIn_wide (n := 0)).1 ?_))
  cases h1 : (compC P gl false n ck p).run ro s with
  | no why => rw [h1] at h'; cases h'
  | ok r =>
   obtain ⟨e, s1⟩ := r;rw [h1] at h';refine wpIn_mono (ih none hrd hs h1) ?_;rintro e' a1 w1 ⟨rfl, ρ1, g1, g2⟩
   cases e' <;> first | (cases h'; done) | (cases h'; exact ⟨rfl, ρ1, g1, g2⟩)
 | rangeFunc g ps asg body iha ihb =>
  intro r hrd ρ s s' a w x hs h;unfold compC at h
  split at h
  ·rename_i p
   obtain rfl := hrd rfl;dsimp only at h
   cases hp : Nat.blt p n with
   | false => rw [hp] at h; cases h
   | true =>
    rw [hp, cond_true] at h;have hp : p < n := Nat.le_of_ble_eq_true hp;unfold rangeC at h
    cases hct : Nat.blt s.c top with
    | false => rw [hct] at h; cases h
    | true =>
     rw [hct, cond_true] at h;have hct : s.c < 1048576 := Nat.le_of_ble_eq_true hct
     split at h
     ·rename_i f as hto
      exact range_ok hn hgw hck hs hp hct hto h
     ·cases h
  ·cases h
 | _ => intro r hrd ρ s s' a w x hs h; cases h
end
end Go.Ex
namespace Go.Ex
def Keep (ro c : Nat) (h h' : H) : Prop := ∀ id, id < ro → id < c → h'.get id = h.get id
theorem Keep.refl {ro c : Nat} {h : H} : Keep ro c h h := fun _ _ _ => rfl
theorem Keep.trans {ro c c1 : Nat} {h h1 h2 : H} (a : Keep ro c h h1) (b : Keep ro c1 h1 h2) (le : c ≤ c1) : Keep ro c h h2 := fun id i1 i2 => (b id i1 (Nat.lt_of_lt_of_le i2 le)).trans (a id i1 i2)
def KR (ro c : Nat) (h : H) : Option R → Prop
 | some (.val _ h' c') => Keep ro c h h' ∧ c ≤ c' ∧ (c ≤ 1048576 → c' ≤ 1048576)
 | _ => True
section
variable {P : Program} {h : H} {c ro : Nat}
theorem k_same {v : V} : KR ro c h (same h c v) := ⟨Keep.refl, Nat.le_refl _, fun h => h⟩
theorem k_sameO {v : Option V} : KR ro c h (sameO h c v) := by cases v <;> first | trivial | exact k_same
theorem k_plain {e : Sem Value} : KR ro c h (plain h c e) := by
 unfold plain
 cases e <;> first | trivial | (simp only [forceV_eq]; exact ⟨Keep.refl, Nat.le_refl _, fun h => h⟩)
theorem k_intV {k : IntKind} {n : Int} : KR ro c h (intV h c k n) := by unfold intV; rw [forceI_eq]; exact ⟨Keep.refl, Nat.le_refl _, fun h => h⟩
theorem k_boolV {b : Bool} : KR ro c h (boolV h c b) := by cases b <;> exact ⟨Keep.refl, Nat.le_refl _, fun h => h⟩
theorem k_new {b : B} {v : V} : KR ro c h (new h c b v) := by
 unfold new
 cases hc : Nat.blt c top with
 | false => trivial
 | true =>
  have hc : c < 1048576 := Nat.le_of_ble_eq_true hc;exact ⟨fun id _ h2 => by rw [hget_set hc, if_neg (by omega)], Nat.le_succ _, fun _ => hc⟩
theorem keep_set (hct : c ≤ 1048576) {id : Nat} {b : B} (hro : ro ≤ id) : Keep ro c h (hset h id b) := fun i h1 h2 => by
 unfold hset Tr.get Tr.set;rw [getP_setP, if_neg];intro e;have := path_inj (n := id) (m := i) (by omega) e.symm
 omega
theorem k_set (hct : c ≤ 1048576) {id : Nat} {b : B} {v : V} (hro : Nat.ble ro id = true) : KR ro c h (some (.val v (hset h id b) c)) := ⟨keep_set hct (Nat.le_of_ble_eq_true hro), Nat.le_refl _, fun h => h⟩
theorem andl {a b : Bool} (h : (a && b) = true) : a = true := by cases a <;> simp_all
theorem k_store (hct : c ≤ 1048576) {t : TypeId} {a x : V} : KR ro c h (oStore P h c ro t a x) := by
 unfold oStore;simp only [cond_eq_ite]
 repeat' split
 all_goals first | trivial | (rename_i hb; exact k_set hct (andl (andl (andl hb))))
theorem k_intOp {op : BinOp} {k : IntKind} {a b : Int} : KR ro c h (intOp h c op k a b) := by
 unfold intOp
 cases op <;> first | trivial | exact k_intV | exact k_boolV | exact k_plain | (cases eqI b 0 <;> first | trivial | exact k_intV)
theorem k_intOp2 {op : BinOp} {k k' : IntKind} {a b : Int} : KR ro c h (intOp2 h c op k k' a b) := by
 unfold intOp2
 cases op <;> first | exact k_plain | (dsimp only; cases decide (k = k') <;> first | trivial | (simp only [cond_true]; exact k_intOp))
theorem k_eqNil {op : BinOp} {t : TypeId} {b : Bool} : KR ro c h (eqNil P h c op t b) := by
 unfold eqNil
 split <;> first | trivial | exact k_boolV
theorem k_binop {op : BinOp} {t : TypeId} {x y : V} : KR ro c h (binop P h c op t x y) := by
 have ha : ∀ x y, KR ro c h (eqA P h c op t x y) := by
  intro x y;unfold eqA
  split <;> first | trivial | exact k_boolV
 unfold binop binop2
 repeat' split
 ·exact k_intOp2
 ·unfold strB; split <;> first | trivial | (simp only [forceV_eq]; exact ⟨Keep.refl, Nat.le_refl _, fun h => h⟩)
 ·unfold eqB; split <;> first | trivial | exact k_boolV
 ·exact k_eqNil
 ·exact ha _ _
 ·exact k_eqNil
 ·exact ha _ _
theorem k_appNew {k id off n m : Nat} {l : List V} : KR ro c h (appNew h c k id off n m l) := by
 unfold appNew
 split
 ·rw [forceN_eq]; exact k_new
 ·trivial
theorem k_appIn (hct : c ≤ 1048576) {k id off n m : Nat} {l : List V} : KR ro c h (appIn h c ro k id off n m l) := by
 unfold appIn
 split
 ·cases hc : (Nat.ble ro id && Nat.beq (off + n * k) _ && Nat.blt c top) with
  | false => trivial
  | true =>
   rw [cond_true, forceN_eq];simp only [Bool.and_eq_true] at hc;have h1 := Nat.le_of_ble_eq_true hc.1.1;have h2 : c < 1048576 := Nat.le_of_ble_eq_true hc.2;refine ⟨fun i g1 g2 => ?_, Nat.le_succ _, fun _ => h2⟩;rw [hget_set h2, if_neg (by omega)];exact keep_set hct h1 i g1 g2
 ·trivial
theorem k_append (hct : c ≤ 1048576) {t : TypeId} {s x : V} : KR ro c h (append P h c ro t s x) := by
 unfold append
 split
 ·trivial
 ·cases (Nat.beq _ 0 || Nat.beq _ 0) with
  | true => trivial
  | false =>
   rw [cond_false]
   split
   ·trivial
   ·cases Nat.beq _ 0 with
    | true => trivial
    | false =>
     rw [cond_false];unfold appS
     split
     ·cases small _ _ with
      | false => trivial
      | true => rw [cond_true, forceN_eq]; exact k_new
     ·cases (Nat.beq _ _ && small _ _) with
      | false => trivial
      | true =>
       rw [cond_true]
       split
       ·cases Nat.blt _ _ with
        | false => rw [cond_false]; exact k_appIn hct
        | true => rw [cond_true]; exact k_appNew
       ·exact k_appIn hct
     ·trivial
theorem k_mapUpdate (hct : c ≤ 1048576) {t : TypeId} {m k v : V} : KR ro c h (oMapUpdate P h c ro t m k v) := by
 unfold oMapUpdate;simp only [cond_eq_ite]
 repeat' split
 all_goals first | trivial | (rename_i hb _ _ _; exact k_set hct (by simp only [Bool.and_eq_true] at hb; exact hb.2)) | (rename_i hb _ _; exact k_set hct (by simp only [Bool.and_eq_true] at hb; exact hb.2))
theorem k_copyJ (hct : c ≤ 1048576) {k id off id2 off2 j : Nat} : KR ro c h (copyJ h c ro k id off id2 off2 j) := by
 unfold copyJ
 cases hc : (Nat.ble ro id && Nat.blt 0 j) with
 | false => trivial
 | true =>
  rw [cond_true];simp only [Bool.and_eq_true] at hc
  split
  ·cases Nat.ble _ _ with
   | false => trivial
   | true => rw [cond_true]; exact k_set hct hc.1
  ·trivial
theorem k_copyV (hct : c ≤ 1048576) {k id off n id2 off2 m : Nat} : KR ro c h (copyV h c ro k id off n id2 off2 m) := by
 unfold copyV
 cases Nat.ble n m <;> exact k_copyJ hct
theorem k_clearV (hct : c ≤ 1048576) {zs : List Value} {k id off n : Nat} : KR ro c h (clearV h c ro zs k id off n) := by
 unfold clearV
 cases hc : (Nat.ble ro id && Nat.blt 0 n && zs.all Value.oneCell' && Nat.beq zs.length k) with
 | false => trivial
 | true =>
  rw [cond_true];simp only [Bool.and_eq_true] at hc
  split
  ·cases Nat.ble _ _ with
   | false => trivial
   | true => rw [cond_true]; exact k_set hct hc.1.1.1
  ·trivial
theorem k_clear (hct : c ≤ 1048576) {as : List V} {ts : List TypeId} : KR ro c h (oClear P h c ro as ts) := by
 unfold oClear;simp only [cond_eq_ite]
 repeat' split
 all_goals first | trivial | exact k_same | exact k_clearV hct
theorem k_copy (hct : c ≤ 1048576) {as : List V} {ts : List TypeId} : KR ro c h (oCopy P h c ro as ts) := by
 unfold oCopy;simp only [cond_eq_ite]
 repeat' split
 all_goals first | trivial | exact k_same | exact k_copyV hct
theorem k_next (hct : c ≤ 1048576) {i : V} {str : Bool} : KR ro c h (oNext h c ro i str) := by
 unfold oNext nextS nextM;simp only [cond_eq_ite]
 repeat' split
 all_goals first | trivial | exact k_same | (rename_i hb; exact k_set hct (by simp only [Bool.and_eq_true] at hb; exact hb.2)) | (rename_i hb; rw [forceN_eq, forceN_eq]; exact k_set hct (by simp only [Bool.and_eq_true] at hb; exact hb.2))
theorem k_cutSl {id off k : Nat} {cap : Cp} {a b : Option Nat} : KR ro c h (cutSl h c id off k cap a b) := by
 unfold cutSl
 split
 ·rw [forceN_eq, forceN_eq]; exact k_same
 ·trivial
theorem k_slice {t : TypeId} {x : V} {lo hi mx : Option V} : KR ro c h (oSlice P h c t x lo hi mx) := by
 unfold oSlice slS slX slSl slNil slStr slArr;simp only [cond_eq_ite]
 repeat' split
 all_goals first | trivial | exact k_same | exact k_cutSl
theorem k_elem {e : TypeId} {x : V} {i : Int} {n : Nat} : KR ro c h (elemAt P h c e x i n) := by
 unfold elemAt;simp only [cond_eq_ite]
 repeat' split
 all_goals first | trivial | (rw [forceN_eq]; exact k_same)
theorem k_iop (hct : c ≤ 1048576) {op : Op} {ev : Ev} : KR ro c h (iop P h c ro op ev) := by
 cases op with
 | move x => exact k_same
 | assign x => exact k_same
 | pick b x y => show KR _ _ _ (oPick _ _ _ _ _); unfold oPick; split <;> first | trivial | exact k_same
 | alloc t => show KR _ _ _ (oAlloc _ _ _ _); unfold oAlloc; simp only [cond_eq_ite]; (repeat' split); all_goals first | trivial | exact k_new
 | box t x => show KR _ _ _ (oBox _ _ _); unfold oBox; simp only [cond_eq_ite]; split <;> first | trivial | exact k_new
 | load t a => show KR _ _ _ (oLoad _ _ _ _ _); unfold oLoad; (repeat' split); all_goals first | trivial | exact k_sameO
 | store t a x => exact k_store hct
 | nilCheck x => show KR _ _ _ (oNil _ _ _); unfold oNil; split <;> first | trivial | exact k_same
 | binOp op t x y t' => exact k_binop
 | unOp op t x => show KR _ _ _ (oUn _ _ _ _); unfold oUn; split <;> first | trivial | exact k_plain
 | convert s t x => show KR _ _ _ (oConv _ _ _ _ _ _); unfold oConv; split <;> first | trivial | exact k_intV
 | fieldAddr s x i => show KR _ _ _ (oFieldAddr _ _ _ _ _ _); unfold oFieldAddr; split <;> first | trivial | (rw [forceN_eq]; exact k_same)
 | field s x i => show KR _ _ _ (oField _ _ _ _ _ _); unfold oField; simp only [cond_eq_ite]; (repeat' split); all_goals first | trivial | exact k_sameO
 | indexAddr t x i => show KR _ _ _ (oIndexAddr _ _ _ _ _ _); unfold oIndexAddr; simp only [cond_eq_ite]; (repeat' split); all_goals first | trivial | exact k_elem
 | index t x i => show KR _ _ _ (oIndex _ _ _ _ _ _); unfold oIndex idxS; (repeat' split); all_goals first | trivial | exact k_sameO | exact k_intV
 | build t ps => show KR _ _ _ (oBuild _ _ _ _ _); unfold oBuild; simp only [cond_eq_ite]; (repeat' split); all_goals first | trivial | exact k_same
 | buildSlice t n ps => show KR _ _ _ (oBuildSlice _ _ _ _ _ _); unfold oBuildSlice; simp only [cond_eq_ite]; (repeat' split); all_goals first | trivial | exact k_new
 | makeFunc f first cap => show KR _ _ _ (oMakeFunc _ _ _ _ _); unfold oMakeFunc; split <;> first | trivial | exact k_same
 | makeMap t r => show KR _ _ _ (oMakeMap _ _ _ _ _); unfold oMakeMap; split <;> first | trivial | exact k_new
 | lookup t m k ok => show KR _ _ _ (oLookup _ _ _ _ _ _ _); unfold oLookup found; simp only [cond_eq_ite]; (repeat' split); all_goals first | trivial | exact k_same
 | mapUpdate t m k v => exact k_mapUpdate hct
 | range t x => show KR _ _ _ (oRange _ _ _ _ _); unfold oRange; (repeat' split); all_goals first | trivial | exact k_new
 | next i str => exact k_next hct
 | entry i => show KR _ _ _ (oEntry _ _ _); unfold oEntry; simp only [cond_eq_ite]; (repeat' split); all_goals first | trivial | exact k_same
 | makeSlice t l cp => show KR _ _ _ (oMakeSlice _ _ _ _ _ _); unfold oMakeSlice; simp only [cond_eq_ite]; (repeat' split); all_goals first | trivial | (rw [forceN_eq]; exact k_new)
 | slice t x lo hi mx => exact k_slice
 | extract x i => show KR _ _ _ (oExtract _ _ _ _); unfold oExtract; split <;> first | trivial | exact k_sameO
 | call cl =>
  obtain ⟨callee, as, ts⟩ := cl
  cases callee with
  | invoke _ _ => trivial
  | value f => show KR _ _ _ (oCall _ _); unfold oCall; split <;> trivial
  | builtin b =>
   show KR _ _ _ (oBuiltin _ _ _ _ _ _ _)
   cases b with
   | len => show KR _ _ _ (oLen _ _ _ _ _); unfold oLen lenV; (repeat' split); all_goals first | trivial | exact k_same | exact k_intV
   | append => show KR _ _ _ (oAppend _ _ _ _ _ _); unfold oAppend appNil; simp only [cond_eq_ite]; (repeat' split); all_goals first | trivial | exact k_same | exact k_append hct
   | max => show KR _ _ _ (oMM _ _ _ _); unfold oMM; split <;> first | trivial | exact k_intV
   | min => show KR _ _ _ (oMM _ _ _ _); unfold oMM; split <;> first | trivial | exact k_intV
   | copy => exact k_copy hct
   | clear => exact k_clear hct
   | _ => trivial
 | _ => trivial
end
end Go.Ex
namespace Go.Ex
section
variable {P : Program} {gl : Nat → Bool} {ck : CallK} {n ro : Nat} {ops : Array Oper}
def Kp (ro : Nat) (s : S) (s' : S) : Prop := Keep ro s.c s.h s'.h ∧ s.c ≤ s'.c ∧ s'.c ≤ 1048576
def CKK (ck : CallK) : Prop := ∀ f as h c ro v h' c', ck f as h c ro = .ok (v, h', c') → c ≤ 1048576 → Keep ro c h h' ∧ c ≤ c' ∧ c' ≤ 1048576
theorem Kp.refl {s : S} (h : s.c ≤ 1048576) : Kp ro s s := ⟨Keep.refl, Nat.le_refl _, h⟩
theorem Kp.trans {a b c : S} (h : Kp ro a b) (k : Kp ro b c) : Kp ro a c := ⟨h.1.trans k.1 h.2.1, Nat.le_trans h.2.1 k.2.1, k.2.2⟩
theorem put_k {d : Option Nat} {pos : String} {s s' : S} {v : V} {h : H} {c : Nat} (hp : compPut n d pos s v h c = .ok s') : s'.h = h ∧ s'.c = c := by
 unfold compPut at hp
 cases d with
 | none => cases hp; exact ⟨rfl, rfl⟩
 | some d =>
  dsimp only at hp
  cases hd : Nat.blt d n with
  | false => rw [hd] at hp; cases hp
  | true => rw [hd, cond_true] at hp; cases hp; exact ⟨rfl, rfl⟩
theorem stepR_k (hck : CKK ck) {o : Oper} {s s' : S} (hc : s.c ≤ 1048576) (h : stepR n ck o ro s ((comp P gl o.op).run ro s) = .ok s') : Kp ro s s' := by
 rw [comp_eq] at h;have hk := k_iop (P := P) (h := s.h) (c := s.c) (ro := ro) (op := o.op) (ev := fun x => (opnd gl x).run s) hc;unfold stepR at h
 cases hi : iop P s.h s.c ro o.op (fun x => (opnd gl x).run s) with
 | none => rw [hi] at h; cases h
 | some r =>
  rw [hi] at h hk
  cases r with
  | val v h' c' =>
   obtain ⟨g1, g2⟩ := put_k h;obtain ⟨k1, k2, k3⟩ := hk;exact ⟨by rw [g1]; exact k1, by rw [g2]; exact k2, by rw [g2]; exact k3 hc⟩
  | call f as =>
   dsimp only at h
   cases hcl : ck (.fn f) as s.h s.c ro with
   | no why => rw [hcl] at h; cases h
   | ok vhc =>
    obtain ⟨v, h', c'⟩ := vhc;rw [hcl] at h;obtain ⟨g1, g2⟩ := put_k h;obtain ⟨k1, k2, k3⟩ := hck (.fn f) as _ _ _ _ _ _ hcl hc;exact ⟨by rw [g1]; exact k1, by rw [g2]; exact k2, by rw [g2]; exact k3⟩
  | yield f as =>
   dsimp only at h
   cases hcl : ck (.yd f) as s.h s.c ro with
   | no why => rw [hcl] at h; cases h
   | ok vhc =>
    obtain ⟨v, h', c'⟩ := vhc;rw [hcl] at h;obtain ⟨g1, g2⟩ := put_k h;obtain ⟨k1, k2, k3⟩ := hck (.yd f) as _ _ _ _ _ _ hcl hc;exact ⟨by rw [g1]; exact k1, by rw [g2]; exact k2, by rw [g2]; exact k3⟩
theorem step_k (hck : CKK ck) {o : Oper} {s s' : S} (hc : s.c ≤ 1048576) (h : (compOp P gl n ck ops o).run ro s = .ok s') : Kp ro s s' := by
 unfold compOp at h
 cases hg : o.guard with
 | none => rw [hg] at h; exact stepR_k hck hc h
 | some jw =>
  rw [hg] at h;dsimp only at h;unfold guarded at h
  split at h
  ·cases h
  ·obtain ⟨g1, g2⟩ := put_k h;exact ⟨by rw [g1]; exact Keep.refl, by rw [g2]; exact Nat.le_refl _, by rw [g2]; exact hc⟩
  ·exact stepR_k hck hc h
end
end Go.Ex
namespace Go.Ex
section
variable {P : Program} {gl : Nat → Bool} {ck : CallK} {n ro : Nat} {ops : Array Oper}
theorem norm_ok {α β : Type} {x : Re α} {k : α → Re β} {r : β} (h : norm x k = .ok r) : ∃ s, x = .ok s ∧ k s = .ok r := by
  cases x with
  | ok s => exact ⟨s, rfl, h⟩
  | no w => cases h
theorem Kp.any {s s' : S} (h : Kp s.c s s') : Kp ro s s' := ⟨fun id _ h2 => h.1 id h2 h2, h.2⟩
theorem steps_k (hck : CKK ck) : ∀ (l : List Oper) {s s' : S}, s.c ≤ 1048576 → (compOps P gl n ck ops l).run ro s = .ok s' → Kp ro s s'
  | [], s, s', hc, h => by
    simp only [compOps, Re.ok.injEq] at h
    subst h
    exact Kp.refl hc
  | o :: l, s, s', hc, h => by
    simp only [compOps] at h
    obtain ⟨s1, h1, h2⟩ := norm_ok h
    have k1 := step_k hck hc h1
    exact k1.trans (steps_k hck l k1.2.2 h2)
theorem maxN_eq (a b : Nat) : maxN a b = max a b := by
  unfold maxN
  cases h : Nat.ble a b with
  | true => have := Nat.le_of_ble_eq_true h; rw [cond_true]; omega
  | false => have : ¬ a ≤ b := fun e => by rw [Nat.ble_eq_true_of_le e] at h; cases h
             rw [cond_false]; omega
theorem Kp.low {r2 : Nat} {s s' : S} (h : Kp r2 s s') (hr : ro ≤ r2) : Kp ro s s' := ⟨fun id h1 h2 => h.1 id (Nat.lt_of_lt_of_le h1 hr) h2, h.2⟩
theorem stepsD_k (hck : CKK ck) : ∀ (l : List Oper) (j : Nat) {last : Nat} {s s' : S}, s.c ≤ 1048576 → (compOpsD P gl n ck ops l j).run last ro s = .ok s' → Kp ro s s'
  | [], j, last, s, s', hc, h => by
    simp only [compOpsD, Re.ok.injEq] at h
    subst h
    exact Kp.refl hc
  | o :: l, j, last, s, s', hc, h => by
    have key : ∀ {r2 l2 : Nat}, (r2 = ro ∨ r2 = maxN ro last ∨ r2 = s.c) → norm ((compOp P gl n ck ops o).run r2 s) (fun s1 => (compOpsD P gl n ck ops l (j + 1)).run l2 ro s1) = .ok s' → Kp ro s s' := by
      intro r2 l2 hr h
      obtain ⟨s1, h1, h2⟩ := norm_ok h
      have k1 := step_k hck hc h1
      have k2 : Kp ro s s1 := by
        rcases hr with rfl | rfl | rfl
        · exact k1
        · exact k1.low (by rw [maxN_eq]; omega)
        · exact k1.any
      exact k2.trans (stepsD_k hck l (j + 1) k2.2.2 h2)
    unfold compOpsD at h
    split at h
    · exact key (.inl rfl) h
    · exact key (.inl rfl) h
    · exact key (.inr (.inl rfl)) h
    · exact key (.inr (.inl rfl)) h
    · exact key (.inr (.inr rfl)) h
    · exact key (.inr (.inr rfl)) h
theorem thenK_ok {x : Re (Exit × S)} {k : S → Re (Exit × S)} {r : Exit × S} (h : thenC x k = .ok r) : (∃ s, x = .ok (.normal, s) ∧ k s = .ok r) ∨ x = .ok r := by
  unfold thenC at h
  split at h
  · exact .inl ⟨_, rfl, h⟩
  · exact .inr h
theorem code_k {rd : Bool} (hck : CKK ck) : ∀ c : Code, ∀ {s s' : S} {x : Exit}, s.c ≤ 1048576 → (compC P gl rd n ck c).run ro s = .ok (x, s') → Kp ro s s' := by
  intro c
  induction c with
  | skip => intro s s' x hc h; cases h; exact Kp.refl hc
  | label l => intro s s' x hc h; cases h; exact Kp.refl hc
  | ret => intro s s' x hc h; cases h; exact Kp.refl hc
  | exit id => intro s s' x hc h; cases h; exact Kp.refl hc
  | region id ops draw =>
    intro s s' x hc h
    cases draw with
    | false =>
      obtain ⟨s1, h1, h2⟩ := norm_ok (show norm ((compOps P gl n ck ops ops.toList).run ro s) (fun s => Re.ok (Exit.normal, s)) = .ok (x, s') from h)
      cases h2
      exact steps_k hck _ hc h1
    | true =>
      unfold compC at h
      cases ho : orderOk ops with
      | false => rw [ho] at h; cases h
      | true =>
        rw [ho] at h
        obtain ⟨s1, h1, h2⟩ := norm_ok (show norm ((compOpsD P gl n ck ops ops.toList 0).run s.c ro s) (fun s => Re.ok (Exit.normal, s)) = .ok (x, s') from h)
        cases h2
        exact stepsD_k hck _ _ hc h1
  | seq p q ihp ihq =>
    intro s s' x hc h
    rcases thenK_ok (show thenC ((compC P gl rd n ck p).run ro s) (fun s => (compC P gl rd n ck q).run ro s) = .ok (x, s') from h) with ⟨s1, h1, h2⟩ | h1
    · have k1 := ihp hc h1
      exact k1.trans (ihq k1.2.2 h2)
    · exact ihp hc h1
  | cond v p q ihp ihq =>
    intro s s' x hc h
    have h' : condC ((opnd gl v).run s) ((compC P gl rd n ck p).run ro s) ((compC P gl rd n ck q).run ro s) = .ok (x, s') := h
    unfold condC at h'
    split at h'
    · exact ihp hc h'
    · exact ihq hc h'
    · cases h'
  | block id p ih =>
    intro s s' x hc h
    have h' : blockC id ((compC P gl rd n ck p).run ro s) = .ok (x, s') := h
    cases h1 : (compC P gl rd n ck p).run ro s with
    | no why => rw [h1] at h'; cases h'
    | ok r =>
      obtain ⟨e, s1⟩ := r
      rw [h1] at h'
      have : s1 = s' := by
        cases e with
        | exit id' =>
          simp only [blockC] at h'
          cases hb : Nat.beq id' id with
          | true => rw [hb] at h'; cases h'; rfl
          | false => rw [hb] at h'; cases h'; rfl
        | _ => simp only [blockC] at h'; cases h'; rfl
      subst this
      exact ih hc h1
  | loop p ih =>
    intro s s' x hc h
    have h' : loopN (fun s => (compC P gl rd n ck p).run ro s) 100000 s = .ok (x, s') := h
    have key : ∀ (m : Nat) {s1 : S}, s1.c ≤ 1048576 → Kp ro s s1 → loopN (fun s => (compC P gl rd n ck p).run ro s) m s1 = .ok (x, s') → Kp ro s s' := by
      intro m
      induction m with
      | zero => intro s1 _ _ h; cases h
      | succ m ihm =>
        intro s1 hc1 hk h
        rcases thenK_ok (show thenC ((compC P gl rd n ck p).run ro s1) (loopN (fun s => (compC P gl rd n ck p).run ro s) m) = .ok (x, s') from h) with ⟨s2, h3, h4⟩ | h3
        · have k1 := ih hc1 h3
          exact ihm k1.2.2 (hk.trans k1) h4
        · exact hk.trans (ih hc1 h3)
    exact key 100000 hc (Kp.refl hc) h'
  | scope p ih =>
    intro s s' x hc h
    cases rd with
    | true => cases h
    | false =>
    have h' : scopeC ((compC P gl false n ck p).run ro s) = .ok (x, s') := h
    cases h1 : (compC P gl false n ck p).run ro s with
    | no why => rw [h1] at h'; cases h'
    | ok r =>
      obtain ⟨e, s1⟩ := r
      rw [h1] at h'
      have : s1 = s' := by
        cases e <;> first | (cases h'; done) | (cases h'; rfl)
      subst this
      exact ih hc h1
  | rangeFunc g ps asg body iha ihb =>
    intro s s' x hc h
    unfold compC at h
    split at h
    · rename_i p
      dsimp only at h
      cases hp : Nat.blt p n with
      | false => rw [hp] at h; cases h
      | true =>
        rw [hp, cond_true] at h
        unfold rangeC at h
        cases hct : Nat.blt s.c top with
        | false => rw [hct] at h; cases h
        | true =>
          rw [hct, cond_true] at h
          have hct : s.c < 1048576 := Nat.le_of_ble_eq_true hct
          split at h
          · rename_i f as hto
            unfold endRange at h
            split at h
            · cases h
            · rename_i v h2 c2 hcl
              obtain ⟨k1, k2, k3⟩ := hck (.fn f) as _ _ _ _ _ _ hcl (by omega)
              split at h
              · cases h
              · rename_i n' t' p' a' b' st' pd' _ hg
                split at h
                · rename_i e' he'
                  cases h
                  refine ⟨fun id i1 i2 => ?_, by dsimp only; omega, k3⟩
                  rw [hget_set (by omega), if_neg (by omega), k1 id i1 (by omega), hget_set hct, if_neg (by omega)]
                · cases h
              · cases h
          · cases h
    · cases h
  | _ => intro s s' x hc h; cases h
theorem round_k (hck : CKK ck) {id : Nat} {as : List V} {h : H} {c : Nat} {v : V} {h' : H} {c' : Nat} (e : yieldStep P gl ck id as h c ro = .ok (v, h', c')) (hc : c ≤ 1048576) : Keep ro c h h' ∧ c ≤ c' ∧ c' ≤ 1048576 := by
  unfold yieldStep at e
  split at e
  · rename_i x n t p a b st pd hg
    cases hro : Nat.ble ro id with
    | false => rw [hro] at e; cases e
    | true =>
      rw [hro, cond_true] at e
      have hro := Nat.le_of_ble_eq_true hro
      unfold roundBody at e
      split at e
      · rename_i s1 h1
        have k1 : Kp ro ⟨Tr.setP x (path p) t, h, c⟩ s1 := code_k hck a hc h1
        obtain ⟨q1, q2, q3⟩ := k1
        split at e
        · rename_i n1 t1 p1 a1 b1 pd1 hg1
          unfold roundEnd at e
          split at e
          · cases e
          · rename_i x2 s2 h2
            have k2 := code_k hck b (s := ⟨s1.t, hset s1.h id (.loop n1 t1 p1 a1 b1 .busy pd1), s1.c⟩) q3 h2
            obtain ⟨r1, r2, r3⟩ := k2
            have fin : ∀ bb : B, Keep ro c h (hset s2.h id bb) ∧ c ≤ s2.c ∧ s2.c ≤ 1048576 := by
              intro bb
              refine ⟨?_, Nat.le_trans q2 r2, r3⟩
              have e1 : Keep ro s1.c s1.h (hset s1.h id (.loop n1 t1 p1 a1 b1 .busy pd1)) := keep_set q3 hro
              have e2 : Keep ro s2.c s2.h (hset s2.h id bb) := keep_set r3 hro
              exact ((q1.trans e1 q2).trans r1 q2).trans e2 (Nat.le_trans q2 r2)
            split at e
            · split at e
              · cases e; exact fin _
              · cases e; exact fin _
              · cases e; exact fin _
              · cases e
            · cases e
        · cases e
      · cases e
      · cases e
  · cases e
def OrcK (orc : Orc) : Prop := ∀ f as h c ro v h' c', orc f as h c ro = some (v, h', c') → c ≤ 1048576 → Keep ro c h h' ∧ c ≤ c' ∧ c' ≤ 1048576
theorem resO_k {h h' : H} {c c' : Nat} {l : Option (List V)} {nm : String} {v : V} (e : resO h c l nm = .ok (v, h', c')) : h' = h ∧ c' = c := by
  unfold resO at e
  split at e <;> first | (cases e; exact ⟨rfl, rfl⟩) | cases e
theorem call_k {orc : Orc} (ho : OrcK orc) : ∀ n, CKK (call P gl orc n)
  | 0 => fun f as h c ro v h' c' hh => by cases hh
  | n + 1 => by
    intro cl as h c ro v h' c' hh hc
    have hh2 : callStep P gl orc (call P gl orc n) cl as h c ro = .ok (v, h', c') := hh
    unfold callStep at hh2
    cases cl with
    | yd id => exact round_k (call_k ho n) hh2 hc
    | fn f =>
    dsimp only at hh2
    cases hor : orc f as h c ro with
    | some r =>
      rw [hor] at hh2
      cases hh2
      exact ho f as h c ro v h' c' hor hc
    | none =>
      rw [hor] at hh2
      dsimp only at hh2
      unfold compF at hh2
      cases hf : P.funcs[f]? with
      | none => rw [hf] at hh2; cases hh2
      | some fn =>
        rw [hf] at hh2
        dsimp only at hh2
        split at hh2
        · rename_i b hnm hb hnt
          dsimp only at hh2
          cases hle : Nat.ble as.length fn.ntmps with
          | false => rw [hle] at hh2; cases hh2
          | true =>
            rw [hle, cond_true] at hh2
            unfold endC at hh2
            cases hcc : (compC P gl false fn.ntmps (call P gl orc n) b).run ro ⟨args as 0 .nil, h, c⟩ with
            | no why => rw [hcc] at hh2; cases hh2
            | ok xs =>
              obtain ⟨x, s'⟩ := xs
              rw [hcc] at hh2
              have k := code_k (rd := false) (call_k ho n) b (s := ⟨args as 0 .nil, h, c⟩) hc hcc
              have fin : resO s'.h s'.c (resL P s' fn.results.toList) fn.name = .ok (v, h', c') → Keep ro c h h' ∧ c ≤ c' ∧ c' ≤ 1048576 := by
                intro hres
                obtain ⟨rfl, rfl⟩ := resO_k hres
                exact k
              cases x with
              | normal => exact fin hh2
              | ret => exact fin hh2
              | _ => cases hh2
        · cases hh2
end
end Go.Ex
namespace Go.Ex
section
variable {P : Program} {gl : Nat → Bool} {GW : World → Prop} {ck : CallK} {n ro : Nat} {w0 : World} {ops : Array Oper} {mb : Nat} {r : Option Nat}
def PutV (n : Nat) (s s' : S) (dst : Option Nat) (v : V) : Prop := (∀ d, dst = some d → d < n) ∧ ∀ i, s'.t.get i = if dst = some i then some v else s.t.get i
theorem putV_of (hn : n ≤ 1048576) {dst : Option Nat} {pos : String} {s s' : S} {v : V} {h : H} {c : Nat} (hp : compPut n dst pos s v h c = .ok s') : PutV n s s' dst v ∧ s'.h = h ∧ s'.c = c := by
 unfold compPut at hp
 cases dst with
 | none => cases hp; exact ⟨⟨by simp, fun i => by simp⟩, rfl, rfl⟩
 | some d =>
  dsimp only at hp
  cases hd : Nat.blt d n with
  | false => rw [hd] at hp; cases hp
  | true =>
   rw [hd, cond_true] at hp
   cases hp
   have hdn : d < n := Nat.le_of_ble_eq_true hd;refine ⟨⟨by rintro _ ⟨⟩; exact hdn, fun i => ?_⟩, rfl, rfl⟩;have : (Tr.setP v (path d) s.t).get i = if i = d then some v else s.t.get i := get_set (t := s.t) (m := i) (by omega);show (Tr.setP v (path d) s.t).get i = _;rw [this]
   by_cases h : i = d
   ·subst h; simp
   ·rw [if_neg h, if_neg (by simpa using fun e => h e.symm)]
theorem look_tmp {o : Oper} {d : Nat} (h : Operand.tmp d ∈ o.op.operands) : d ∈ o.looksAt ops :=
 List.mem_append_left _ (List.mem_filterMap.2 ⟨.tmp d, by simpa using h, rfl⟩)
theorem opnd_look {ρ : Rh} {s : S} {a : Act} {w : World} {o : Oper} (hglob : ∀ g, gl g = true → ρ g = some ⟨g, 0⟩) (hl : ∀ d ∈ o.looksAt ops, VR w ρ (tmpV (s.t.get d)) (a.tmps.getD d undef)) (x : Operand) (hx : x ∈ o.op.operands) :
  VR w ρ ((opnd gl x).run s) (a.eval x) := by
 cases x with
 | tmp i => exact hl i (look_tmp hx)
 | const v => exact .lit v
 | func f => exact .lit _
 | global g =>
  show VR w ρ (bif gl g then V.ptr g 0 else .lit (.pointer (some ⟨g, 0, none⟩))) _
  cases hg : gl g with
  | false => exact .lit _
  | true => exact VR.ptr (w := w) (off := 0) (hglob g hg)
theorem stepR_raw (hn : n ≤ 1048576) (hgw : GW w0) (hck : CKok P gl GW ck) {o : Oper} {ρ : Rh} {s s' : S} {a : Act} {w : World} (hr : Rel w0 ρ s.h w) (hd : Dom ρ s.c) (ht : s.c ≤ 1048576) (hg : ∀ g, gl g = true → ρ g = some ⟨g, 0⟩)
  (hl : ∀ d ∈ o.looksAt ops, VR w ρ (tmpV (s.t.get d)) (a.tmps.getD d undef)) (hrun : stepR n ck o ro s ((comp P gl o.op).run ro s) = .ok s') {K : Act → World → Prop} {Q : Exit → Act → World → Prop}
  (hK : ∀ ρ' v u w', Rel w0 ρ' s'.h w' → Ext ro s.c ρ w ρ' w' s'.c → VR w' ρ' v u → PutV n s s' o.dst v → K (a.put o.dst u) w') : o.wpIn (Fr r) 0 P a w K Q := by
 have hgd := iop_sound (P := P) (ro := ro) (o := o) (e := a.eval) hr hd ht (fun x hx => opnd_look hg hl x hx);rw [comp_eq] at hrun;unfold stepR at hrun
 cases hi : iop P s.h s.c ro o.op (fun x => (opnd gl x).run s) with
 | none => rw [hi] at hrun; cases hrun
 | some r =>
  rw [hi] at hrun hgd
  cases r with
  | val v h' c' =>
   dsimp only at hrun;have hg' : UponE w0 ro s.c ρ w v h' c' ((execOp a.eval o).run P w) := hgd;obtain ⟨p1, p2, p3⟩ := putV_of hn hrun;refine ⟨fun _ _ => trivial, ?_⟩
   cases hres : (execOp a.eval o).run P w with
   | halt => rw [hres] at hg'; exact hg'.elim
   | ok nx w' =>
    rw [hres] at hg';rw [semAt_fr hres (fun d hd => by rw [hd] at hg'; exact hg'.elim), hres]
    cases nx <;> simp only [UponE] at hg' <;> simp only [Oper.uponIn]
    case value u =>
     obtain ⟨ρ', h1, h2, h3⟩ := hg';exact hK ρ' v _ _ (by rw [p2]; exact h1) (by rw [p3]; exact h2) h3 p1
    case skip =>
     obtain ⟨ρ', h1, h2, h3⟩ := hg';exact hK ρ' v _ _ (by rw [p2]; exact h1) (by rw [p3]; exact h2) h3 p1
  | call f as =>
   dsimp only at hrun
   cases hc : ck (.fn f) as s.h s.c ro with
   | no why => rw [hc] at hrun; cases hrun
   | ok vhc =>
    obtain ⟨v, h', c'⟩ := vhc;rw [hc] at hrun;dsimp only at hrun;obtain ⟨p1, p2, p3⟩ := putV_of hn hrun;obtain ⟨args, g1, g2⟩ : ∃ args : List Value, (execOp a.eval o).run P w = (callFunc f args.toArray).run P w ∧ VL w ρ as args := hgd;obtain ⟨⟨fn, k1, k2, k3⟩, hcall⟩ := hck.fn f as s.h s.c ro v h' c' hc;have hcl := hcall w0 ρ w args hgw hr hd ht hg g2;refine ⟨fun _ _ => trivial, ?_⟩;have hres := g1.trans (Sim.run_callFunc k1 k2 k3 (w := w) (args := args.toArray));rw [semAt_fr hres (fun d hd => by cases hd), hres];simp only [Oper.uponIn];refine ⟨fr_room, callsIn_fr (hcl.mono ?_)⟩;rintro e w' ⟨u, ρ', rfl, h1, h2, h3⟩;exact hK ρ' v _ _ (by rw [p2]; exact h1) (by rw [p3]; exact h2) h3 p1
  | yield id as =>
   dsimp only at hrun
   cases hc : ck (.yd id) as s.h s.c ro with
   | no why => rw [hc] at hrun; cases hrun
   | ok vhc =>
    obtain ⟨v, h', c'⟩ := vhc;rw [hc] at hrun;dsimp only at hrun;obtain ⟨p1, p2, p3⟩ := putV_of hn hrun;obtain ⟨l, args, g0, g1, g2⟩ : ∃ (l : Loc) (args : List Value), ρ id = some l ∧ (execOp a.eval o).run P w = (Instr.yield l.b args.toArray).run P w ∧ VL w ρ as args := hgd;obtain ⟨fn, tmps, assign, body, q1, q2⟩ := hck.yd id as s.h s.c ro v h' c' hc w0 ρ w args l hgw hr hd ht hg g0 g2;refine ⟨fun _ _ => trivial, ?_⟩;have hres := g1.trans q1;rw [semAt_fr hres (fun d hd => by cases hd), hres];simp only [Oper.uponIn];refine ⟨fr_room, roundIn_fr (q2.mono ?_)⟩;rintro e w' ⟨u, ρ', rfl, h1, h2, h3⟩;exact hK ρ' v _ _ (by rw [p2]; exact h1) (by rw [p3]; exact h2) h3 p1
theorem step_raw (hn : n ≤ 1048576) (hgw : GW w0) (hck : CKok P gl GW ck) {o : Oper} {ρ : Rh} {s s' : S} {a : Act} {w : World} (hr : Rel w0 ρ s.h w) (hd : Dom ρ s.c) (ht : s.c ≤ 1048576) (hg : ∀ g, gl g = true → ρ g = some ⟨g, 0⟩)
  (hl : ∀ d ∈ o.looksAt ops, VR w ρ (tmpV (s.t.get d)) (a.tmps.getD d undef)) (hrun : (compOp P gl n ck ops o).run ro s = .ok s') {K : Act → World → Prop} {Q : Exit → Act → World → Prop}
  (hK : ∀ ρ' v u w', Rel w0 ρ' s'.h w' → Ext ro s.c ρ w ρ' w' s'.c → VR w' ρ' v u → PutV n s s' o.dst v → K (a.put o.dst u) w') :
  if Region.wanted o (yielded ops a.tmps) then o.wpIn (Fr r) 0 P a w K Q else (∀ f, o.about P w a.eval = some f → (Fr r).fn f) ∧ K (a.put o.dst undef) w := by
 unfold compOp at hrun
 cases hgd : o.guard with
 | none =>
  rw [hgd] at hrun;dsimp only at hrun
  have : Region.wanted o (yielded ops a.tmps) = true := by simp [Region.wanted, hgd]
  rw [this];simp only [if_true];exact stepR_raw hn hgw hck hr hd ht hg hl hrun hK
 | some jw =>
  obtain ⟨j, want⟩ := jw;rw [hgd] at hrun;dsimp only at hrun
  have key : ∀ b, (compW ops o).run s = some b → Region.wanted o (yielded ops a.tmps) = b := by
   intro b hb;unfold compW at hb;rw [hgd] at hb;dsimp only at hb
   cases hdd : (ops[j]?).bind (·.dst) with
   | none => rw [hdd] at hb; cases hb
   | some d =>
    rw [hdd] at hb;dsimp only at hb;have htt := hl d (by simp [Oper.looksAt, hgd, hdd]);rw [Array.getD_eq_getD_getElem?] at htt;have hb' : isWant want (tmpV (s.t.get d)) = some b := hb;unfold Region.wanted;simp only [hgd, yielded, hdd, Option.bind_some];unfold isWant at hb'
    split at hb'
    ·rename_i b0 hv
     rw [hv] at htt;have := htt.lit_inv
     cases hq : a.tmps[d]? with
     | none => rw [hq] at this; simp [undef] at this
     | some x =>
      rw [hq] at this;simp only [Option.getD_some] at this;subst this
      simpa using hb'
    ·rename_i v0 hnb hv
     rw [hv] at htt;have := htt.lit_inv;simp only [Option.some.injEq] at hb';subst hb'
     cases hq : a.tmps[d]? with
     | none => rfl
     | some x =>
      rw [hq] at this;simp only [Option.getD_some] at this;subst this
      cases x <;> first | rfl | exact absurd rfl (hnb _)
    ·cases hb'
  unfold guarded at hrun
  cases hw : (compW ops o).run s with
  | none => rw [hw] at hrun; cases hrun
  | some b =>
   rw [hw] at hrun;rw [key b hw]
   cases b with
   | true =>
    simp only [if_true];exact stepR_raw hn hgw hck hr hd ht hg hl hrun hK
   | false =>
    simp only [Bool.false_eq_true, if_false];dsimp only at hrun;obtain ⟨p1, p2, p3⟩ := putV_of hn hrun;exact ⟨fun _ _ => trivial, hK ρ _ undef w (by rw [p2]; exact hr) (by rw [p3]; exact Ext.refl) (.lit undef) p1⟩
theorem step_put (hn : n ≤ 1048576) {o : Oper} {s s' : S} (hrun : (compOp P gl n ck ops o).run ro s = .ok s') : (∀ d, o.dst = some d → d < n) ∧ ∀ i, o.dst ≠ some i → s'.t.get i = s.t.get i := by
 have keyR : ∀ r, stepR n ck o ro s r = .ok s' → (∀ d, o.dst = some d → d < n) ∧ ∀ i, o.dst ≠ some i → s'.t.get i = s.t.get i := by
  intro r hr
  have fin : ∀ {v : V} {h : H} {c : Nat}, compPut n o.dst o.pos s v h c = .ok s' → (∀ d, o.dst = some d → d < n) ∧ ∀ i, o.dst ≠ some i → s'.t.get i = s.t.get i := by
   intro v h c hp;obtain ⟨p1, _, _⟩ := putV_of hn hp;exact ⟨p1.1, fun i hi => by rw [p1.2 i, if_neg hi]⟩
  unfold stepR at hr
  split at hr
  ·cases hr
  ·exact fin hr
  ·split at hr
   ·exact fin hr
   ·cases hr
  ·split at hr
   ·exact fin hr
   ·cases hr
 unfold compOp at hrun
 cases hgd : o.guard with
 | none => rw [hgd] at hrun; exact keyR _ hrun
 | some jw =>
  rw [hgd] at hrun;dsimp only at hrun;unfold guarded at hrun
  split at hrun
  ·cases hrun
  ·obtain ⟨p1, _, _⟩ := putV_of hn hrun;exact ⟨p1.1, fun i hi => by rw [p1.2 i, if_neg hi]⟩
  ·exact keyR _ hrun
def FreeR (h : H) (c : Nat) (f : H → Nat → Option R) : Prop := ∀ r, f h c = some r → ∃ v, r = .val v h c ∧ ∀ h' c', f h' c' = some (.val v h' c')
theorem f_same {h : H} {c : Nat} {v : V} : FreeR h c (fun h c => same h c v) := fun r e => ⟨v, by simpa [same] using e.symm, fun _ _ => rfl⟩
theorem f_none {h : H} {c : Nat} : FreeR h c (fun _ _ => none) := fun r e => by cases e
theorem f_sameO {h : H} {c : Nat} {v : Option V} : FreeR h c (fun h c => sameO h c v) := by cases v <;> first | exact f_none | exact f_same
theorem f_plain {h : H} {c : Nat} {e : Sem Value} : FreeR h c (fun h c => plain h c e) := by
 intro r hr;unfold plain at hr ⊢
 cases e <;> first | (cases hr; done) | skip
 rename_i v
 simp only [forceV_eq, Option.some.injEq] at hr ⊢;exact ⟨_, hr.symm, fun _ _ => rfl⟩
theorem f_intV {h : H} {c : Nat} {k : IntKind} {i : Int} : FreeR h c (fun h c => intV h c k i) := by
 intro r hr;simp only [intV, forceI_eq, Option.some.injEq] at hr ⊢;exact ⟨_, hr.symm, fun _ _ => rfl⟩
theorem f_boolV {h : H} {c : Nat} {b : Bool} : FreeR h c (fun h c => boolV h c b) := by
 intro r hr
 cases b <;> (simp only [boolV, cond_true, cond_false, Option.some.injEq] at hr ⊢; exact ⟨_, hr.symm, fun _ _ => rfl⟩)
theorem f_bif {h : H} {c : Nat} {b : Bool} {f g : H → Nat → Option R} (hf : FreeR h c f) (hg : FreeR h c g) : FreeR h c (fun h c => bif b then f h c else g h c) := by cases b <;> assumption
theorem f_intOp {h : H} {c : Nat} {op : BinOp} {k : IntKind} {a b : Int} : FreeR h c (fun h c => intOp h c op k a b) := by
 unfold intOp
 cases op <;> first | exact f_none | exact f_intV | exact f_boolV | exact f_plain | exact f_bif f_none f_intV
theorem f_intOp2 {h : H} {c : Nat} {op : BinOp} {k k' : IntKind} {a b : Int} : FreeR h c (fun h c => intOp2 h c op k k' a b) := by
 unfold intOp2
 cases op <;> first | exact f_plain | exact f_bif f_intOp f_none
theorem f_eqA {h : H} {c : Nat} {op : BinOp} {t : TypeId} {x y : V} : FreeR h c (fun h c => eqA P h c op t x y) := by
 unfold eqA
 cases aggEq2 P t x y <;> cases op <;> first | exact f_none | exact f_boolV
theorem f_strB {h : H} {c : Nat} {op : BinOp} {a b : ByteArray} : FreeR h c (fun h c => strB h c op a b) := by
 intro r hr;unfold strB at hr ⊢
 cases hs : strOp op a b with
 | none => rw [hs] at hr; cases hr
 | some v =>
  rw [hs] at hr;simp only [forceV_eq, Option.some.injEq] at hr ⊢;exact ⟨_, hr.symm, fun _ _ => rfl⟩
theorem f_eqB {h : H} {c : Nat} {op : BinOp} {t : TypeId} {a b : Bool} : FreeR h c (fun h c => eqB P h c op t a b) := by
 unfold eqB
 cases P.underlying t with
 | none => exact f_none
 | some d => cases d <;> first | exact f_none | (cases op <;> first | exact f_none | exact f_boolV)
theorem f_eqNil {h : H} {c : Nat} {op : BinOp} {t : TypeId} {b : Bool} : FreeR h c (fun h c => eqNil P h c op t b) := by
 unfold eqNil
 split <;> first | exact f_none | exact f_boolV
theorem f_binop {h : H} {c : Nat} {op : BinOp} {t : TypeId} {x y : V} : FreeR h c (fun h c => binop P h c op t x y) := by
 unfold binop binop2
 split
 ·split
  ·exact f_intOp2
  ·exact f_strB
  ·exact f_eqB
  ·exact f_eqNil
  ·exact f_eqA
 ·exact f_eqNil
 ·exact f_eqA
theorem f_elemAt {h : H} {c : Nat} {e : TypeId} {x : V} {i : Int} {n0 : Nat} : FreeR h c (fun h c => elemAt P h c e x i n0) := by
 unfold elemAt;simp only [forceN_eq]
 split <;> first | exact f_none | exact f_bif f_same f_none
theorem free_iop {o : Oper} (hf : free o = true) {h : H} {c ro : Nat} {ev : Ev} {r : R} (e : iop P h c ro o.op ev = some r) : ∃ v, r = .val v h c ∧ ∀ h' c' ro', iop P h' c' ro' o.op ev = some (.val v h' c') := by
 have key : ∀ {f : H → Nat → Option R}, FreeR h c f → (∀ h' c' ro', iop P h' c' ro' o.op ev = f h' c') → ∃ v, r = .val v h c ∧ ∀ h' c' ro', iop P h' c' ro' o.op ev = some (.val v h' c') := by
  intro f hfr he;obtain ⟨v, h1, h2⟩ := hfr r (by rw [← he h c ro]; exact e);exact ⟨v, h1, fun h' c' ro' => by rw [he]; exact h2 h' c'⟩
 unfold free at hf
 split at hf
 case h_1 x ho => rw [ho] at key ⊢; exact key (f_same (v := ev x)) (fun _ _ _ => rfl)
 case h_2 x ho => rw [ho] at key ⊢; exact key (f_same (v := ev x)) (fun _ _ _ => rfl)
 case h_3 b x y ho =>
  rw [ho] at key ⊢;refine key (f := fun h c => oPick h c (ev b) (ev x) (ev y)) ?_ (fun _ _ _ => rfl);unfold oPick
  split <;> first | exact f_same | exact f_none
 case h_4 op t x y p ho => rw [ho] at key ⊢; exact key (f_binop (P := P) (op := op) (t := t) (x := ev x) (y := ev y)) (fun _ _ _ => rfl)
 case h_5 op t x ho =>
  rw [ho] at key ⊢;refine key (f := fun h c => oUn h c op (ev x)) ?_ (fun _ _ _ => rfl);unfold oUn
  split <;> first | exact f_plain | exact f_none
 case h_6 s t x ho =>
  rw [ho] at key ⊢;refine key (f := fun h c => oConv P h c s t (ev x)) ?_ (fun _ _ _ => rfl);unfold oConv
  split <;> first | exact f_intV | exact f_none
 case h_7 s x i ho =>
  rw [ho] at key ⊢;refine key (f := fun h c => oFieldAddr P h c s (ev x) i) ?_ (fun _ _ _ => rfl);unfold oFieldAddr;simp only [forceN_eq]
  split <;> first | exact f_same | exact f_none
 case h_8 s x i ho =>
  rw [ho] at key ⊢;refine key (f := fun h c => oField P h c s (ev x) i) ?_ (fun _ _ _ => rfl);unfold oField;refine f_bif ?_ f_none
  split <;> first | exact f_sameO | exact f_none
 case h_9 t x i ho =>
  rw [ho] at key ⊢;refine key (f := fun h c => oIndexAddr P h c t (ev x) (ev i)) ?_ (fun _ _ _ => rfl);unfold oIndexAddr
  split <;> first | exact f_bif f_elemAt f_none | exact f_none
 case h_10 t x i ho =>
  rw [ho] at key ⊢;refine key (f := fun h c => oIndex P h c t (ev x) (ev i)) ?_ (fun _ _ _ => rfl);unfold oIndex idxS
  split
  ·exact f_sameO
  ·split <;> first | exact f_intV | exact f_none
  ·exact f_none
 case h_11 f a b ho =>
  rw [ho] at key ⊢;refine key (f := fun h c => oMakeFunc h c f (mapL ev a) (mapL ev b)) ?_ (fun _ _ _ => rfl);unfold oMakeFunc
  split <;> first | exact f_same | exact f_none
 case h_12 x i ho =>
  rw [ho] at key ⊢;refine key (f := fun h c => oExtract h c (ev x) i) ?_ (fun _ _ _ => rfl);unfold oExtract
  split <;> first | exact f_sameO | exact f_none
 case h_13 x ho =>
  rw [ho] at key ⊢;refine key (f := fun h c => oNil h c (ev x)) ?_ (fun _ _ _ => rfl);unfold oNil
  split <;> first | exact f_same | exact f_none
 case h_14 as ts ho =>
  rw [ho] at key ⊢;refine key (f := fun h c => oLen P h c (mapL ev as) ts.toList) ?_ (fun _ _ _ => rfl);unfold oLen lenV
  split
  ·split <;> first | exact f_same | exact f_intV | exact f_none
  ·exact f_none
 case h_15 as ts ho =>
  rw [ho] at key ⊢;refine key (f := fun h c => oMM h c true (mapL ev as)) ?_ (fun _ _ _ => rfl);unfold oMM
  split <;> first | exact f_intV | exact f_none
 case h_16 as ts ho =>
  rw [ho] at key ⊢;refine key (f := fun h c => oMM h c false (mapL ev as)) ?_ (fun _ _ _ => rfl);unfold oMM
  split <;> first | exact f_intV | exact f_none
 case h_17 => cases hf
theorem free_step {o : Oper} (hf : free o = true) {s s' : S} (hrun : (compOp P gl n ck ops o).run ro s = .ok s') : s'.h = s.h ∧ s'.c = s.c ∧ ∀ h' ro', (compOp P gl n ck ops o).run ro' ⟨s.t, h', s.c⟩ = .ok ⟨s'.t, h', s.c⟩ := by
 have hev : ∀ h' : H, ∀ x : Operand, (opnd gl x).run ⟨s.t, h', s.c⟩ = (opnd gl x).run s := by intro h' x; cases x <;> rfl
 have put : ∀ {v : V}, compPut n o.dst o.pos s v s.h s.c = .ok s' → s'.h = s.h ∧ s'.c = s.c ∧ ∀ h' : H, compPut n o.dst o.pos ⟨s.t, h', s.c⟩ v h' s.c = .ok ⟨s'.t, h', s.c⟩ := by
  intro v hp;unfold compPut at hp ⊢
  cases hd : o.dst with
  | none => rw [hd] at hp; cases hp; exact ⟨rfl, rfl, fun _ => rfl⟩
  | some d =>
   rw [hd] at hp;dsimp only at hp ⊢
   cases hb : Nat.blt d n with
   | false => rw [hb] at hp; cases hp
   | true => rw [hb, cond_true] at hp; cases hp; exact ⟨rfl, rfl, fun _ => rfl⟩
 have stp : stepR n ck o ro s ((comp P gl o.op).run ro s) = .ok s' → s'.h = s.h ∧ s'.c = s.c ∧ ∀ h' ro', stepR n ck o ro' ⟨s.t, h', s.c⟩ ((comp P gl o.op).run ro' ⟨s.t, h', s.c⟩) = .ok ⟨s'.t, h', s.c⟩ := by
  intro hr;rw [comp_eq] at hr;unfold stepR at hr
  cases hi : iop P s.h s.c ro o.op (fun x => (opnd gl x).run s) with
  | none => rw [hi] at hr; cases hr
  | some r =>
   rw [hi] at hr;obtain ⟨v, rfl, h2⟩ := free_iop hf hi;obtain ⟨p1, p2, p3⟩ := put hr;refine ⟨p1, p2, fun h' ro' => ?_⟩;rw [comp_eq];have : (fun x => (opnd gl x).run ⟨s.t, h', s.c⟩) = fun x => (opnd gl x).run s := funext (hev h');show stepR n ck o ro' ⟨s.t, h', s.c⟩ (iop P h' s.c ro' o.op (fun x => (opnd gl x).run ⟨s.t, h', s.c⟩)) = _;rw [this, h2 h' s.c ro'];exact p3 h'
 unfold compOp at hrun ⊢
 cases hg : o.guard with
 | none => rw [hg] at hrun; exact stp hrun
 | some jw =>
  rw [hg] at hrun;dsimp only at hrun ⊢
  have hw : ∀ h' : H, (compW ops o).run ⟨s.t, h', s.c⟩ = (compW ops o).run s := by
   intro h';unfold compW;rw [hg];dsimp only
   cases (ops[jw.1]?).bind (·.dst) <;> rfl
  unfold guarded at hrun ⊢
  cases hv : (compW ops o).run s with
  | none => rw [hv] at hrun; cases hrun
  | some b =>
   rw [hv] at hrun
   cases b with
   | false =>
    obtain ⟨p1, p2, p3⟩ := put hrun;exact ⟨p1, p2, fun h' ro' => by rw [hw h', hv]; exact p3 h'⟩
   | true =>
    obtain ⟨p1, p2, p3⟩ := stp hrun;exact ⟨p1, p2, fun h' ro' => by rw [hw h', hv]; exact p3 h' ro'⟩
end
end Go.Ex
namespace Go.Ex
section
variable {P : Program} {gl : Nat → Bool} {ck : CallK} {n ro : Nat} {w0 : World} {ops : Array Oper}
theorem follows_spec {o : Oper} {i : Nat} (h : follows o i = true) : ∃ e ∈ o.after, Region.binds .any e = true ∧ e.on = i := by
 unfold follows at h;obtain ⟨e, he, hb⟩ := List.any_eq_true.1 h;simp only [Bool.and_eq_true] at hb;exact ⟨e, by simpa using he, hb.1, Nat.eq_of_beq_eq_true hb.2⟩
theorem allAfter_spec {o : Oper} {i : Nat} : ∀ (l : List Oper) (j : Nat), pairs.allAfter ops o i l j = true → ∀ (m : Nat) (o' : Oper), l[m]? = some o' → follows o' i = true ∨ o.apart ops o' = true
 | [], _, _, m, o', h => by simp at h
 | x :: l, j, h, m, o', hm => by
  simp only [pairs.allAfter, Bool.and_eq_true, Bool.or_eq_true] at h
  cases m with
  | zero => simp at hm; subst hm; exact h.1
  | succ m => exact allAfter_spec l (j + 1) h.2 m o' (by simpa using hm)
theorem pairs_spec' : ∀ (l : List Oper) (k : Nat), pairs ops l k = true → ∀ (i j : Nat) (o o' : Oper), l[i]? = some o → l[j]? = some o' → i < j → follows o' (k + i) = true ∨ o.apart ops o' = true
 | [], _, _, i, _, _, _, h, _, _ => by simp at h
 | x :: l, k, h, i, j, o, o', hi, hj, hij => by
  simp only [pairs, Bool.and_eq_true] at h
  cases j with
  | zero => omega
  | succ j =>
   cases i with
   | zero =>
    simp at hi; subst hi
    exact allAfter_spec l (k + 1) h.1 j o' (by simpa using hj)
   | succ i =>
    have := pairs_spec' l (k + 1) h.2 i j o o' (by simpa using hi) (by simpa using hj) (by omega);rw [show k + (i + 1) = k + 1 + i by omega]; exact this
theorem pairs_spec (h : orderOk ops = true) {i j : Nat} {o o' : Oper} (hi : ops[i]? = some o) (hj : ops[j]? = some o') (hij : i < j) : follows o' i = true ∨ o.apart ops o' = true := by
 unfold orderOk at h;simp only [Bool.and_eq_true] at h;have := pairs_spec' ops.toList 0 h.1 i j o o' (by simpa using hi) (by simpa using hj) hij
 rwa [Nat.zero_add] at this
theorem upto_spec' : ∀ (l : List Oper) (k : Nat), orderOk.upto l k = true → ∀ (i : Nat) (o : Oper), l[i]? = some o → ∀ e ∈ o.after, Region.binds .any e = true → e.on < k + i
 | [], _, _, i, _, h => by simp at h
 | x :: l, k, h, i, o, hi => by
  simp only [orderOk.upto, Bool.and_eq_true] at h
  cases i with
  | zero =>
   simp at hi; subst hi
   intro e he hb;have := List.all_eq_true.1 h.1 e (by simpa using he);have hb' : binds e = true := hb;rw [hb'] at this
   have h3 : Nat.blt e.on k = true := by simpa [-Nat.blt_eq] using this
   exact Nat.le_of_ble_eq_true h3
  | succ i =>
   have := upto_spec' l (k + 1) h.2 i o (by simpa using hi);rw [show k + (i + 1) = k + 1 + i by omega]; exact this
theorem upto_spec (h : orderOk ops = true) {i : Nat} {o : Oper} (hi : ops[i]? = some o) : ∀ e ∈ o.after, Region.binds .any e = true → e.on < i := by
 unfold orderOk at h;simp only [Bool.and_eq_true] at h;have := upto_spec' ops.toList 0 h.2 i o (by simpa using hi)
 rwa [Nat.zero_add] at this
theorem bit_eq (m i : Nat) : bit m i = Nat.testBit m i := by
 unfold bit;rw [Nat.testBit_eq_decide_div_mod_eq];have : Nat.shiftRight m i = m / 2 ^ i := Nat.shiftRight_eq_div_pow m i;rw [this]
 cases h : Nat.beq (Nat.mod (m / 2 ^ i) 2) 1 with
 | true => have := Nat.eq_of_beq_eq_true h; exact (decide_eq_true this).symm
 | false =>
  refine (decide_eq_false fun e => ?_).symm;have e' : Nat.mod (m / 2 ^ i) 2 = 1 := e;rw [e'] at h; cases h
theorem anc_ok {ms : List Nat} {i : Nat} (hms : ∀ (k m : Nat), ms[k]? = some m → Nat.testBit m i = true → ∃ ok f, ops[k]? = some ok ∧ followsN ops f ok i = true) {o : Oper} (h : Nat.testBit (ancOf ms o) i = true) : ∃ f, followsN ops f o i = true := by
 unfold ancOf at h;have key : ∀ (l : List Edge) (a : Nat), (∀ e ∈ l, e ∈ o.after.toList) → (Nat.testBit a i = true → ∃ f, followsN ops f o i = true) →
   Nat.testBit (l.foldl (fun a e => bif binds e then Nat.lor a (Nat.lor (Nat.shiftLeft 1 e.on) (ms.getD e.on 0)) else a) a) i = true → ∃ f, followsN ops f o i = true := by
  intro l
  induction l with
  | nil => intro a _ ha h; exact ha h
  | cons e l ih =>
   intro a hl ha h;refine ih _ (fun x hx => hl x (List.mem_cons_of_mem _ hx)) ?_ h;intro h2;have he := hl e List.mem_cons_self;dsimp only at h2
   cases hb : binds e with
   | false => rw [hb] at h2; exact ha h2
   | true =>
    rw [hb, cond_true] at h2;have h2 : Nat.testBit (a ||| ((1 <<< e.on) ||| ms.getD e.on 0)) i = true := h2;rw [Nat.testBit_or, Nat.testBit_or] at h2;simp only [Bool.or_eq_true] at h2
    rcases h2 with h2 | h2 | h2
    ·exact ha h2
    ·rw [Nat.one_shiftLeft, Nat.testBit_two_pow] at h2;have h3 := of_decide_eq_true h2;refine ⟨0, ?_⟩;show follows o i = true;unfold follows;exact List.any_eq_true.2 ⟨e, he, by rw [hb, h3, Nat.beq_refl]; rfl⟩
    ·have : ∃ m, ms[e.on]? = some m ∧ Nat.testBit m i = true := by
      rw [List.getD_eq_getElem?_getD] at h2
      cases hx : ms[e.on]? with
      | none => rw [hx] at h2; simp at h2
      | some m => rw [hx] at h2; exact ⟨m, rfl, h2⟩
     obtain ⟨m, h3, h4⟩ := this;obtain ⟨ok, f, h5, h6⟩ := hms e.on m h3 h4;refine ⟨f + 1, ?_⟩;simp only [followsN, Bool.or_eq_true];exact .inr (List.any_eq_true.2 ⟨e, he, by rw [hb, h5]; exact h6⟩)
 exact key _ _ (fun _ h => h) (fun h => by simp at h) h
theorem ancs_ok {i : Nat} : ∀ (l : List Oper) (ms : List Nat), (∀ k o, l[k]? = some o → ops[ms.length + k]? = some o) → (∀ (k m : Nat), ms[k]? = some m → Nat.testBit m i = true → ∃ ok f, ops[k]? = some ok ∧ followsN ops f ok i = true) →
  ∀ (k m : Nat), (ancs l ms)[k]? = some m → Nat.testBit m i = true → ∃ ok f, ops[k]? = some ok ∧ followsN ops f ok i = true
 | [], ms, _, hms => hms
 | o :: l, ms, hl, hms => by
  refine ancs_ok l (ms ++ [ancOf ms o]) (fun k o' hk => ?_) (fun k m hk hm => ?_)
  ·have := hl (k + 1) o' (by simpa using hk);rw [List.length_append, List.length_singleton, show ms.length + 1 + k = ms.length + (k + 1) by omega]; exact this
  ·rcases Nat.lt_trichotomy k ms.length with h | h | h
   ·rw [List.getElem?_append_left h] at hk; exact hms k m hk hm
   ·subst h;rw [List.getElem?_append_right (Nat.le_refl _)] at hk
    simp at hk
    subst hk;obtain ⟨f, hf⟩ := anc_ok hms hm;exact ⟨o, f, by simpa using hl 0 o rfl, hf⟩
   ·rw [List.getElem?_eq_none (by simp; omega)] at hk; cases hk
theorem before_ok {o : Oper} {i : Nat} (h : before ops o i = true) : ∃ f, followsN ops f o i = true := by
 unfold before at h;rw [bit_eq] at h;exact anc_ok (ancs_ok ops.toList [] (fun k o hk => by simpa using hk) (fun k m hk => by simp at hk)) h
theorem fixed_spec' {j : Nat} {o : Oper} : ∀ (l : List Oper) (k : Nat), fixed.go ops j o l k = true → ∀ (i : Nat) (o' : Oper), l[i]? = some o' → free o' = true ∨ k + i = j ∨ (k + i < j ∧ before ops o (k + i) = true) ∨ (j < k + i ∧ before ops o' j = true)
 | [], _, _, i, _, h => by simp at h
 | x :: l, k, h, i, o', hi => by
  simp only [fixed.go, Bool.and_eq_true, Bool.or_eq_true] at h
  cases i with
  | zero =>
   simp at hi; subst hi
   rw [Nat.add_zero]
   rcases h.1 with ((h1 | h1) | h1) | h1
   ·exact .inl h1
   ·exact .inr (.inl (Nat.eq_of_beq_eq_true h1))
   ·exact .inr (.inr (.inl ⟨Nat.le_of_ble_eq_true h1.1, h1.2⟩))
   ·exact .inr (.inr (.inr ⟨Nat.le_of_ble_eq_true h1.1, h1.2⟩))
  | succ i =>
   have := fixed_spec' l (k + 1) h.2 i o' (by simpa using hi);rw [show k + (i + 1) = k + 1 + i by omega]; exact this
theorem fixed_spec {j : Nat} {o : Oper} (h : fixed ops j o = true) {i : Nat} {o' : Oper} (hi : ops[i]? = some o') : free o' = true ∨ i = j ∨ (i < j ∧ before ops o i = true) ∨ (j < i ∧ before ops o' j = true) := by
 have := fixed_spec' ops.toList 0 h i o' (by simpa using hi)
 rwa [Nat.zero_add] at this
theorem head_spec : ∀ (j : Nat) {i : Nat}, headOf ops j = some i → i < j ∧ (∃ oi, ops[i]? = some oi ∧ free oi = false) ∧ ∀ k ok, i < k → k < j → ops[k]? = some ok → free ok = true
 | 0, i, h => by cases h
 | j + 1, i, h => by
  simp only [headOf] at h
  split at h
  ·rename_i o ho
   split at h
   ·rename_i hf
    obtain ⟨h1, h2, h3⟩ := head_spec j h;refine ⟨by omega, h2, fun k ok k1 k2 hk => ?_⟩
    rcases Nat.lt_or_ge k j with h4 | h4
    ·exact h3 k ok k1 h4 hk
    ·have : k = j := by omega
     subst this;rw [ho] at hk; cases hk; exact hf
   ·rename_i hf
    cases h
    exact ⟨Nat.lt_succ_self _, ⟨o, ho, hf⟩, fun k ok k1 k2 _ => by omega⟩
  ·cases h
theorem tail_spec' {j : Nat} : ∀ (l : List Oper) (k : Nat), tailOk.go ops j l k = true → ∀ (i : Nat) (o' : Oper), l[i]? = some o' → free o' = true ∨ k + i ≤ j ∨ before ops o' j = true
 | [], _, _, i, _, h => by simp at h
 | x :: l, k, h, i, o', hi => by
  simp only [tailOk.go, Bool.and_eq_true, Bool.or_eq_true] at h
  cases i with
  | zero =>
   simp at hi; subst hi
   rw [Nat.add_zero]
   rcases h.1 with (h1 | h1) | h1
   ·exact .inl h1
   ·exact .inr (.inl (Nat.le_of_ble_eq_true h1))
   ·exact .inr (.inr h1)
  | succ i =>
   have := tail_spec' l (k + 1) h.2 i o' (by simpa using hi);rw [show k + (i + 1) = k + 1 + i by omega]; exact this
theorem chain1_spec {j i : Nat} {o : Oper} (h : chain1 ops j o = some i) : headOf ops j = some i ∧ ∃ oi, ops[i]? = some oi ∧ follows o i = true ∧ fixed ops i oi = false ∧ tailOk ops j = true := by
 unfold chain1 at h
 split at h
 ·rename_i i' hh
  split at h
  ·rename_i oi hoi
   cases hc : (follows o i' && !fixed ops i' oi && tailOk ops j) with
   | false => rw [hc] at h; cases h
   | true =>
    rw [hc] at h
    cases h
    simp only [Bool.and_eq_true, Bool.not_eq_true'] at hc;exact ⟨hh, oi, hoi, hc.1.1, hc.1.2, hc.2⟩
  ·cases h
 ·cases h
theorem chain_spec {j i : Nat} {o : Oper} (h : chainOf ops j o = some i) : headOf ops j = some i ∧ i < j ∧ follows o i = true ∧ (∃ oi, ops[i]? = some oi ∧ free oi = false ∧ fixed ops i oi = false ∧ chainOf ops i oi = none) ∧
  (∀ k ok, i < k → k < j → ops[k]? = some ok → free ok = true) ∧ ∀ k ok, j < k → ops[k]? = some ok → free ok = true ∨ before ops ok j = true := by
 unfold chainOf at h
 split at h
 ·rename_i i' hc
  obtain ⟨h1, oi, h2, h3, h4, h5⟩ := chain1_spec hc;rw [h2] at h;dsimp only at h
  split at h
  ·rename_i hn
   cases h
   obtain ⟨k1, ⟨oi', k2, k3⟩, k4⟩ := head_spec j h1;rw [h2] at k2
   cases k2
   refine ⟨h1, k1, h3, ⟨oi, h2, k3, h4, by unfold chainOf; rw [hn]⟩, k4, fun k ok hk hok => ?_⟩;have := tail_spec' ops.toList 0 h5 k ok (by simpa using hok)
   rcases this with h | h | h
   ·exact .inl h
   ·omega
   ·exact .inr h
  ·cases h
 ·cases h
def roV (fx : Bool) (ch : Option Nat) (ro last c : Nat) : Nat := match fx, ch with
 | true, _ => ro
 | false, some _ => max ro last
 | false, none => c
theorem runs_of : ∀ (l : List Oper) (j last : Nat) {s s' : S}, (compOpsD P gl n ck ops l j).run last ro s = .ok s' → ∃ (st : Nat → S) (lst : Nat → Nat), st j = s ∧ lst j = last ∧ st (j + l.length) = s' ∧
  ∀ i o, l[i]? = some o → (compOp P gl n ck ops o).run (roV (fixed ops (j + i) o) (chainOf ops (j + i) o) ro (lst (j + i)) (st (j + i)).c) (st (j + i)) = .ok (st (j + i + 1)) ∧ lst (j + i + 1) = if free o = true then lst (j + i) else (st (j + i)).c
 | [], j, last, s, s', h => by
  simp only [compOpsD, Re.ok.injEq] at h;exact ⟨fun _ => s, fun _ => last, rfl, rfl, by simpa using h, fun i o hi => by simp at hi⟩
 | o :: l, j, last, s, s', h => by
  have : ∃ s1, (compOp P gl n ck ops o).run (roV (fixed ops j o) (chainOf ops j o) ro last s.c) s = .ok s1 ∧ (compOpsD P gl n ck ops l (j + 1)).run (if free o = true then last else s.c) ro s1 = .ok s' := by
   unfold compOpsD at h
   cases hf : fixed ops j o with
   | true =>
    cases hfr : free o with
    | true => rw [hf, hfr] at h; obtain ⟨s1, h1, h2⟩ := norm_ok h; exact ⟨s1, h1, h2⟩
    | false => rw [hf, hfr] at h; obtain ⟨s1, h1, h2⟩ := norm_ok h; exact ⟨s1, h1, h2⟩
   | false =>
    cases hc : chainOf ops j o with
    | some i =>
     cases hfr : free o with
     | true => rw [hf, hc, hfr] at h; obtain ⟨s1, h1, h2⟩ := norm_ok h; rw [maxN_eq] at h1; exact ⟨s1, h1, h2⟩
     | false => rw [hf, hc, hfr] at h; obtain ⟨s1, h1, h2⟩ := norm_ok h; rw [maxN_eq] at h1; exact ⟨s1, h1, h2⟩
    | none =>
     cases hfr : free o with
     | true => rw [hf, hc, hfr] at h; obtain ⟨s1, h1, h2⟩ := norm_ok h; exact ⟨s1, h1, h2⟩
     | false => rw [hf, hc, hfr] at h; obtain ⟨s1, h1, h2⟩ := norm_ok h; exact ⟨s1, h1, h2⟩
  obtain ⟨s1, h1, h2⟩ := this;obtain ⟨st, lst, g1, g0, g2, g3⟩ := runs_of l (j + 1) _ h2;refine ⟨fun i => if i = j then s else st i, fun i => if i = j then last else lst i, if_pos rfl, if_pos rfl, ?_, ?_⟩
  ·show (if j + (o :: l).length = j then s else st (j + (o :: l).length)) = s';rw [if_neg (by simp), ← g2]
   congr 1
   simp only [List.length_cons]; omega
  ·intro i o' hi
   cases i with
   | zero =>
    simp at hi; subst hi
    constructor
    ·show (compOp P gl n ck ops o).run (roV (fixed ops j o) (chainOf ops j o) ro (if j = j then last else lst j) (if j = j then s else st j).c) (if j = j then s else st j) = .ok (if j + 1 = j then s else st (j + 1));rw [if_pos rfl, if_pos rfl, show (if j + 1 = j then s else st (j + 1)) = s1 by rw [if_neg (by omega), g1]];exact h1
    ·show (if j + 1 = j then last else lst (j + 1)) = if free o = true then (if j = j then last else lst j) else (if j = j then s else st j).c;rw [if_neg (by omega), if_pos rfl, if_pos rfl, g0]
   | succ i =>
    have := g3 i o' (by simpa using hi)
    simp only
    rw [show j + 1 + i = j + (i + 1) by omega] at this
    rw [show (if j + (i + 1) = j then s else st (j + (i + 1))) = st (j + (i + 1)) from if_neg (by omega), show (if j + (i + 1) + 1 = j then s else st (j + (i + 1) + 1)) = st (j + (i + 1) + 1) from if_neg (by omega),
     show (if j + (i + 1) = j then last else lst (j + (i + 1))) = lst (j + (i + 1)) from if_neg (by omega), show (if j + (i + 1) + 1 = j then last else lst (j + (i + 1) + 1)) = lst (j + (i + 1) + 1) from if_neg (by omega)]
    exact this
theorem lst_head {st : Nat → S} {lst : Nat → Nat} (h : ∀ i o, ops[i]? = some o → lst (i + 1) = if free o = true then lst i else (st i).c) : ∀ (j : Nat) {i : Nat}, headOf ops j = some i → lst j = (st i).c
 | 0, i, hh => by cases hh
 | j + 1, i, hh => by
  simp only [headOf] at hh
  split at hh
  ·rename_i o ho
   rw [h j o ho]
   split at hh
   ·rename_i hf
    rw [if_pos hf]; exact lst_head h j hh
   ·rename_i hf
    cases hh
    rw [if_neg (by rw [hf]; simp)]
  ·cases hh
def roAt (ops : Array Oper) (ro : Nat) (st : Nat → S) (j : Nat) (o : Oper) : Nat := if fixed ops j o = true then ro else match chainOf ops j o with
 | some i => max ro (st i).c
 | none => (st j).c
structure Tx (P : Program) (gl : Nat → Bool) (ck : CallK) (n ro : Nat) (ops : Array Oper) (st : Nat → S) : Prop where
 step : ∀ j o, ops[j]? = some o → (compOp P gl n ck ops o).run (roAt ops ro st j o) (st j) = .ok (st (j + 1))
 c0 : (st 0).c ≤ 1048576
 ck : CKK ck
 nn : n ≤ 1048576
def Fx (ops : Array Oper) (j : Nat) (o : Oper) (m : Nat) : Prop := free o = false ∧ (fixed ops j o = true ∨ (fixed ops j o = false ∧ ∃ i, chainOf ops j o = some i ∧ i < m))
theorem Fx.mono {j m m' : Nat} {o : Oper} (h : Fx ops j o m) (hm : m ≤ m') : Fx ops j o m' := ⟨h.1, h.2.imp id fun ⟨a, i, b, c⟩ => ⟨a, i, b, by omega⟩⟩
section
variable {st : Nat → S}
theorem op_at {j : Nat} (h : j < ops.size) : ∃ o, ops[j]? = some o := ⟨ops[j], by simp [h]⟩
theorem Tx.top (tx : Tx P gl ck n ro ops st) : ∀ j, j ≤ ops.size → (st j).c ≤ 1048576
 | 0, _ => tx.c0
 | j + 1, h => by
  obtain ⟨o, ho⟩ := op_at (ops := ops) (j := j) (by omega);exact (step_k tx.ck (tx.top j (by omega)) (tx.step j o ho)).2.2
theorem Tx.le1 (tx : Tx P gl ck n ro ops st) {j : Nat} (h : j < ops.size) : (st j).c ≤ (st (j + 1)).c := by
 obtain ⟨o, ho⟩ := op_at (ops := ops) h;exact (step_k tx.ck (tx.top j (by omega)) (tx.step j o ho)).2.1
theorem Tx.mono (tx : Tx P gl ck n ro ops st) {i : Nat} : ∀ k, i + k ≤ ops.size → (st i).c ≤ (st (i + k)).c
 | 0, _ => Nat.le_refl _
 | k + 1, h => Nat.le_trans (tx.mono k (by omega)) (tx.le1 (j := i + k) (by omega))
theorem Tx.le (tx : Tx P gl ck n ro ops st) {i j : Nat} (h : i ≤ j) (hj : j ≤ ops.size) : (st i).c ≤ (st j).c := by
 have := tx.mono (i := i) (j - i) (by omega)
 rwa [show i + (j - i) = j by omega] at this
theorem Tx.same (tx : Tx P gl ck n ro ops st) {i : Nat} : ∀ k, i + k ≤ ops.size → (∀ j o, i ≤ j → j < i + k → ops[j]? = some o → free o = true) → (st (i + k)).c = (st i).c
 | 0, _, _ => rfl
 | k + 1, h, hf => by
  obtain ⟨o, ho⟩ := op_at (ops := ops) (j := i + k) (by omega);exact ((free_step (hf (i + k) o (by omega) (by omega) ho) (tx.step _ o ho)).2.1).trans (tx.same k (by omega) fun j o h1 h2 => hf j o h1 (by omega))
theorem Tx.keep1 (tx : Tx P gl ck n ro ops st) {m j : Nat} {o : Oper} (ho : ops[j]? = some o) (hm : m ≤ j) (hf : ¬ Fx ops j o m) (id : Nat) (hid : id < (st m).c) : (st (j + 1)).h.get id = (st j).h.get id := by
 have hj : j < ops.size := (Array.getElem?_eq_some_iff.1 ho).1;have hs := tx.step j o ho;have hmj := tx.le hm (by omega)
 cases hfr : free o with
 | true => rw [(free_step hfr hs).1]
 | false =>
  have hfx : fixed ops j o = false := by
   cases hx : fixed ops j o with
   | true => exact absurd ⟨hfr, .inl hx⟩ hf
   | false => rfl
  unfold roAt at hs;rw [hfx, if_neg (by simp)] at hs
  cases hc : chainOf ops j o with
  | none =>
   rw [hc] at hs;exact (step_k tx.ck (tx.top j (by omega)) hs).1 id (by dsimp only; omega) (by omega)
  | some i =>
   rw [hc] at hs
   have him : m ≤ i := by
    rcases Nat.lt_or_ge i m with h | h
    ·exact absurd ⟨hfr, .inr ⟨hfx, i, hc, h⟩⟩ hf
    ·exact h
   have hij := (chain_spec hc).2.1;have := tx.le him (by omega);exact (step_k tx.ck (tx.top j (by omega)) hs).1 id (by dsimp only; omega) (by omega)
theorem Tx.keepK (tx : Tx P gl ck n ro ops st) {i : Nat} : ∀ k, i + k ≤ ops.size → (∀ j o, ops[j]? = some o → i ≤ j → j < i + k → ¬ Fx ops j o i) → ∀ id, id < (st i).c → (st (i + k)).h.get id = (st i).h.get id
 | 0, _, _, _, _ => rfl
 | k + 1, h, hno, id, hid => by
  obtain ⟨o, ho⟩ := op_at (ops := ops) (j := i + k) (by omega);have := tx.keep1 ho (m := i) (by omega) (hno _ o ho (by omega) (by omega)) id hid;exact this.trans (tx.keepK k (by omega) (fun j o hj h1 h2 => hno j o hj h1 (by omega)) id hid)
theorem Tx.keep (tx : Tx P gl ck n ro ops st) {i j : Nat} (h : i ≤ j) (hj : j ≤ ops.size) (hno : ∀ k o, ops[k]? = some o → i ≤ k → k < j → ¬ Fx ops k o i) (id : Nat) (hid : id < (st i).c) : (st j).h.get id = (st i).h.get id := by
 have := tx.keepK (i := i) (j - i) (by omega) (fun k o hk h1 h2 => hno k o hk h1 (by omega)) id hid
 rwa [show i + (j - i) = j by omega] at this
theorem Tx.slotK (tx : Tx P gl ck n ro ops st) {i d : Nat} : ∀ k, i + k ≤ ops.size → (∀ j o, ops[j]? = some o → i ≤ j → j < i + k → o.dst ≠ some d) → (st (i + k)).t.get d = (st i).t.get d
 | 0, _, _ => rfl
 | k + 1, h, hno => by
  obtain ⟨o, ho⟩ := op_at (ops := ops) (j := i + k) (by omega);have := (step_put tx.nn (tx.step _ o ho)).2 d (hno _ o ho (by omega) (by omega));exact this.trans (tx.slotK k (by omega) (fun j o hj h1 h2 => hno j o hj h1 (by omega)))
theorem Tx.slot (tx : Tx P gl ck n ro ops st) {i j d : Nat} (h : i ≤ j) (hj : j ≤ ops.size) (hno : ∀ k o, ops[k]? = some o → i ≤ k → k < j → o.dst ≠ some d) : (st j).t.get d = (st i).t.get d := by
 have := tx.slotK (i := i) (d := d) (j - i) (by omega) (fun k o hk h1 h2 => hno k o hk h1 (by omega))
 rwa [show i + (j - i) = j by omega] at this
end
end
end Go.Ex
