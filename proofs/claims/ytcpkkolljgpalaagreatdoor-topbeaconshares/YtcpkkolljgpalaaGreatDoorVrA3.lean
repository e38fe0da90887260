/-
  What is proved: lemmas and contracts of functions on the way to the law topBeaconShares (part 3).
-/
import Derived.Test.YtcpkkolljgpalaaGreatDoorVrA2
set_option linter.unusedSectionVars false
set_option linter.unusedSimpArgs false
set_option linter.unusedVariables false
set_option linter.unnecessarySimpa false
set_option linter.deprecated false
namespace Go.Ex
open Go.Sim (tyK fieldK zeroK placesK appK flatK setAt run_sizeOf run_isAgg run_loadVar_agg run_loadVar_one run_storeAt run_alloc run_box run_fieldAt fieldK_spec toList_inj)
section
variable {P : Program} {w0 : World} {ro c : Nat} {ρ : Rh} {h : H} {w : World}
theorem g_field (hr : Rel w0 ρ h w) {s : TypeId} {x : V} {i : Nat} {u : Value} (hx : VR w ρ x u) : Good P w0 ro c ρ w (vS (Instr.field s u i)) (oField P h c s x i) := by
 unfold oField
 cases hok : x.okC with
 | false => trivial
 | true =>
  simp only [cond_true]
  split
  ·rename_i l o k hl hf
   obtain ⟨us, rfl, hvc⟩ := aggL_ok hx hl hok;obtain ⟨fs, f, g1, g2, g3, g4⟩ := fieldK_spec hf;refine good_sameO hr fun v hv => ?_;obtain ⟨u, h1, h2⟩ := nth_ok hvc hv;exact ⟨u, by simp [Instr.field, underlying, g1, g2, asAgg, part, run_isAgg g4, g3, h1], h2⟩
  ·rename_i l o k hl hf
   obtain ⟨us, rfl, hvc⟩ := aggL_ok hx hl hok;obtain ⟨fs, f, g1, g2, g3, g4⟩ := fieldK_spec hf;refine good_sameO hr fun v hv => ?_;obtain ⟨h1, h2⟩ := cut_ok hvc hv;exact ⟨_, by simp [Instr.field, underlying, g1, g2, asAgg, part, run_isAgg g4, Sim.run_sizeOf g4, g3], h2⟩
  ·trivial
theorem g_extract (hr : Rel w0 ρ h w) {x : V} {i : Nat} {u : Value} (hx : VR w ρ x u) : Good P w0 ro c ρ w (vS (Instr.extract u i)) (oExtract h c x i) := by
 unfold oExtract
 split
 ·cases hx with
  | tup hl =>
   refine good_sameO hr fun v hv => ?_;obtain ⟨u, h1, h2⟩ := hl.get i hv;exact ⟨u, by simp [Instr.extract, h1], h2⟩
 ·trivial
theorem g_makeFunc (hr : Rel w0 ρ h w) {f : Fn} {a b : List V} {fs cs : List Value} (ha : VL w ρ a fs) (hb : VL w ρ b cs) : Good P w0 ro c ρ w (vS (Instr.makeFunc f fs.toArray cs.toArray)) (oMakeFunc h c f a b) := by
 unfold oMakeFunc
 split
 ·exact good_same hr (by simp [Instr.makeFunc]) (.fn ha hb)
 ·trivial
theorem intOf_ok {i : V} {u : Value} {n : Int} (hi : VR w ρ i u) (h : intOf i = some n) : ∃ k, u = .int k n := by
 unfold intOf at h
 split at h
 ·have := hi.lit_inv; subst this
  simp at h; subst h
  exact ⟨_, rfl⟩
 ·cases h
theorem addr_add (b o n : Nat) : (⟨b, o, none⟩ : Addr).add n = ⟨b, o + n, none⟩ := Addr.add_lit b o n
theorem g_indexAddr (hr : Rel w0 ρ h w) {t : TypeId} {x i : V} {u ui : Value} (hx : VR w ρ x u) (hi : VR w ρ i ui) : Good P w0 ro c ρ w (vS (Instr.indexAt t u ui)) (oIndexAddr P h c t x i) := by
 unfold oIndexAddr
 split
 ·rename_i e n hu hn
  obtain ⟨k, rfl⟩ := intOf_ok hi hn
  cases hs : isSl x with
  | false => trivial
  | true =>
   simp only [cond_true];unfold elemAt
   split
   ·rename_i k0 b0 id off n k' cap j hty
    cases hx with
    | @sl _ _ _ _ cap' p _ l hl h1 h2 h3 h4 =>
     cases hc : (Nat.beq k' (k0 + 1) && Nat.blt j n) with
     | false => trivial
     | true =>
      simp only [Bool.and_eq_true] at hc;obtain ⟨c1, c2⟩ := hc;have c1 := Nat.eq_of_beq_eq_true c1;subst c1;rw [blt_eq, decide_eq_true_eq] at c2;rw [cond_true, forceN_eq]
      rcases h4 with h4 | ⟨h4, _⟩
      ·omega
      ·subst h4;refine good_same (u := .pointer (some ⟨l.b, l.o + (off + j * (k0 + 1)), none⟩)) hr ?_ (.ptr hl)
       have hlt : (0 : Int) ≤ (Int.ofNat j) ∧ (Int.ofNat j) < (n : Int) := by
        constructor
        ·exact Int.natCast_nonneg j
        ·show (j : Int) < n
         omega
       simp only [Instr.indexAt, asIntOf, Sem.run_bind, Sem.run_pure, Result.andThen_ok, run_underlying hu];rw [if_pos hlt];simp only [Sem.run_bind, Sim.run_sizeOf hty, Result.andThen_ok, Sem.run_pure, addr_add]
       simp [Int.toNat, Nat.add_assoc]
   ·simp [isSl] at hs
   ·trivial
 ·rename_i n0 e n hu hn
  obtain ⟨k, rfl⟩ := intOf_ok hi hn
  cases hs : isPtr x with
  | false => trivial
  | true =>
   simp only [cond_true];unfold elemAt
   split
   ·simp [isPtr] at hs
   ·rename_i k0 b0 id off j hty
    cases hx with
    | @ptr _ _ l hl =>
     cases hc : Nat.blt j n0 with
     | false => trivial
     | true =>
      rw [blt_eq, decide_eq_true_eq] at hc;rw [cond_true, forceN_eq];refine good_same (u := .pointer (some ⟨l.b, l.o + (off + j * (k0 + 1)), none⟩)) hr ?_ (.ptr hl)
      have hlt : (0 : Int) ≤ (Int.ofNat j) ∧ (Int.ofNat j) < (n0 : Int) := by
       constructor
       ·exact Int.natCast_nonneg j
       ·show (j : Int) < n0
        omega
      simp only [Instr.indexAt, asIntOf, Sem.run_bind, Sem.run_pure, Result.andThen_ok, run_underlying hu, Instr.sureAddr];rw [if_pos hlt];simp only [Sem.run_bind, Sim.run_sizeOf hty, Result.andThen_ok, Sem.run_pure]
      simp [Int.toNat, addr_add, Nat.add_assoc]
   ·trivial
 ·trivial
theorem g_index (hr : Rel w0 ρ h w) {t : TypeId} {x i : V} {u ui : Value} (hx : VR w ρ x u) (hi : VR w ρ i ui) : Good P w0 ro c ρ w (vS (Instr.index t u ui)) (oIndex P h c t x i) := by
 unfold oIndex
 split
 ·rename_i n e l j hu hn
  obtain ⟨k, rfl⟩ := intOf_ok hi hn
  cases hx with
  | @agg _ us hl =>
   refine good_sameO hr fun v hv => ?_;unfold idxA at hv
   cases hc : Nat.blt j n with
   | false => rw [hc] at hv; cases hv
   | true =>
    rw [hc, cond_true] at hv;rw [blt_eq, decide_eq_true_eq] at hc
    have hlt : (0 : Int) ≤ (Int.ofNat j) ∧ (Int.ofNat j) < (n : Int) := by
     constructor
     ·exact Int.natCast_nonneg j
     ·show (j : Int) < n
      omega
    split at hv
    ·rename_i k1 hty
     obtain ⟨h1, h2⟩ := cut_ok hl hv;refine ⟨_, ?_, h2⟩;simp only [Instr.index, asIntOf, Sem.run_bind, Sem.run_pure, Result.andThen_ok, run_underlying hu];rw [if_pos hlt]
     simp [part, run_isAgg hty, Sim.run_sizeOf hty]
    ·rename_i k1 hty
     obtain ⟨u, h1, h2⟩ := nth_ok hl hv;refine ⟨u, ?_, h2⟩;simp only [Instr.index, asIntOf, Sem.run_bind, Sem.run_pure, Result.andThen_ok, run_underlying hu];rw [if_pos hlt]
     simp [part, run_isAgg hty, Sim.run_sizeOf hty, h1]
    ·cases hv
 ·rename_i s j hu hn
  obtain ⟨k, rfl⟩ := intOf_ok hi hn;have := hx.lit_inv; subst this;unfold idxS
  split
  ·rename_i b hb
   refine good_intV hr ?_
   have hb' : s[j]? = some b := by
    have h0 : j < s.data.toList.length := by
     rcases Nat.lt_or_ge j s.data.toList.length with h | h
     ·exact h
     ·rw [List.getElem?_eq_none h] at hb; cases hb
    have hsz : j < s.size := by rw [Array.length_toList] at h0; exact h0
    rw [List.getElem?_eq_getElem h0] at hb;rw [getElem?_pos s j hsz];simp only [Option.some.injEq] at hb ⊢;rw [← hb]
    rfl
   simp only [Instr.index, asIntOf, Sem.run_bind, Sem.run_pure, Result.andThen_ok, run_underlying hu];rw [if_pos (show (0 : Int) ≤ Int.ofNat j from Int.natCast_nonneg j)]
   simp [Int.toNat, hb']
  ·trivial
 ·trivial
end
end Go.Ex
namespace Go.Ex
open Go.Sim (tyK fieldK zeroK placesK appK flatK setAt run_isAgg run_loadVar_agg run_loadVar_one run_storeAt run_alloc run_box run_fieldAt fieldK_spec toList_inj appK_spec)
section
variable {P : Program} {w0 : World} {ro c : Nat} {ρ : Rh} {h : H} {w : World}
theorem rel_drew (hr : Rel w0 ρ h w) : Rel w0 ρ h w.drew := ⟨⟨hr.below.os, hr.below.tape, hr.below.output, hr.below.size, hr.below.block⟩, fun id l hl => by
 obtain ⟨b, h1, h2, h3, h4⟩ := hr.blk id l hl
 exact ⟨b, h1, h2, BR.mono (w := w) (w' := w.drew) (fun _ _ h => h) (fun _ vs _ fr h => ⟨vs, fr, h, rfl⟩) h3 rfl, h4⟩, hr.inj⟩
theorem ext_drew : Ext ro c ρ w ρ w.drew c := ⟨fun _ _ h => h, Nat.le_refl _, fun _ vs _ fr h => ⟨vs, fr, h, rfl⟩, rfl, rfl, rfl, fun _ _ _ => rfl, fun _ _ h => .inl h, Nat.le_refl _, fun h => h⟩
theorem rel_kill (hr : Rel w0 ρ h w) {id : Nat} (hid : id < 1048576) : Rel w0 ρ (hset h id .dead) w where
 below := hr.below
 blk := fun i l hl => by
  rw [hget_set hid];obtain ⟨b, h1, h2, h3, h4⟩ := hr.blk i l hl
  by_cases hi : i = id
  ·rw [if_pos hi]; exact ⟨.dead, rfl, h2, trivial, fun h => by cases h⟩
  ·rw [if_neg hi]; exact ⟨b, h1, h2, h3, h4⟩
 inj := fun i j li lj b h1 h2 h3 h4 h5 => by
  rw [hget_set hid] at h4 ⊢
  by_cases hi : i = id
  ·rw [if_pos hi] at h4; cases h4; cases h5
  ·rw [if_neg hi] at h4
   by_cases hj : j = id
   ·rw [if_pos hj]; exact .inr rfl
   ·rw [if_neg hj]; exact hr.inj i j li lj b h1 h2 h3 h4 h5
theorem rel_alias {w' : World} {id o' : Nat} {l : Loc} {b b' : B} (hr : Rel w0 ρ h w) (hd : Dom ρ c) (hc : c < 1048576) (t : Turn w l.b w') (hl : ρ id = some l) (hg : h.get id = some b) (hw : b.wr = true) (hw' : b'.wr = true)
  (hb : BR w' (upd ρ c ⟨l.b, o'⟩) ⟨l.b, o'⟩ b') : Rel w0 (upd ρ c ⟨l.b, o'⟩) (hset (hset h id .dead) c b') w' where
 below := by
  obtain ⟨b0, h1, h2, h3, h4⟩ := hr.blk id l hl
  have : b0 = b := by rw [hg] at h1; exact (Option.some.inj h1).symm
  subst this;exact RowKit.Below.trans hr.below ⟨t.os, t.tape, t.output, by rw [t.size]; exact Nat.le_refl _, fun k hk => t.other k fun e => by have := h4 hw; omega⟩
 blk := fun i li hli => by
  have hidc := hd id l hl;rw [hget_set hc, hget_set (by omega)];simp only [upd] at hli;obtain ⟨b0, k1, k2, k3, k4⟩ := hr.blk id l hl
  have : b0 = b := by rw [hg] at k1; exact (Option.some.inj k1).symm
  subst this
  by_cases hi : i = c
  ·rw [if_pos hi] at hli; cases hli;rw [if_pos hi];exact ⟨b', rfl, by rw [t.size]; exact k2, hb, fun _ => k4 hw⟩
  ·rw [if_neg hi] at hli ⊢;obtain ⟨b1, h1, h2, h3, h4⟩ := hr.blk i li hli
   by_cases hi2 : i = id
   ·rw [if_pos hi2]; exact ⟨.dead, rfl, by rw [t.size]; exact h2, trivial, fun h => by cases h⟩
   ·rw [if_neg hi2]
    by_cases hbb : li.b = l.b
    ·rcases hr.inj id i l li b0 hl hli hbb.symm hg hw with h5 | h5
     ·exact absurd h5.symm hi2
     ·have : b1 = .dead := by rw [h5] at h1; exact (Option.some.inj h1).symm
      subst this;exact ⟨.dead, h1, by rw [t.size]; exact h2, trivial, h4⟩
    ·refine ⟨b1, h1, by rw [t.size]; exact h2, BR.mono (fun j lj hj => ?_) t.shapes h3 (t.other _ hbb), h4⟩;have := hd j lj hj;simp only [upd]; rw [if_neg (by omega)]; exact hj
 inj := fun i j li lj bi h1 h2 h3 h4 h5 => by
  have hidc := hd id l hl;rw [hget_set hc, hget_set (by omega)] at h4 ⊢;simp only [upd] at h1 h2
  by_cases hi : i = c
  ·by_cases hj : j = c
   ·left; rw [hi, hj]
   ·rw [if_pos hi] at h1; cases h1;rw [if_neg hj] at h2 ⊢
    by_cases hj2 : j = id
    ·rw [if_pos hj2]; exact .inr rfl
    ·rw [if_neg hj2]
     right
     rcases hr.inj id j l lj b hl h2 h3 hg hw with h6 | h6
     ·exact absurd h6.symm hj2
     ·exact h6
  ·rw [if_neg hi] at h1 h4
   by_cases hi2 : i = id
   ·rw [if_pos hi2] at h4; cases h4; cases h5
   ·rw [if_neg hi2] at h4
    by_cases hj : j = c
    ·rw [if_pos hj] at h2; cases h2
     exfalso
     rcases hr.inj i id li l bi h1 hl h3 h4 h5 with h6 | h6
     ·exact hi2 h6
     ·rw [hg] at h6; cases h6; cases hw
    ·rw [if_neg hj] at h2 ⊢
     by_cases hj2 : j = id
     ·rw [if_pos hj2]; exact .inr rfl
     ·rw [if_neg hj2]; exact hr.inj i j li lj bi h1 h2 h3 h4 h5
theorem ext_alias {w' : World} {id o' : Nat} {l : Loc} (hd : Dom ρ c) (hc : c < 1048576) (t : Turn w l.b w') (hl : ρ id = some l) (hro : ro ≤ id) : Ext ro c ρ w (upd ρ c ⟨l.b, o'⟩) w' (c + 1) where
 sub := fun j lj hj => by have := hd j lj hj; simp only [upd]; rw [if_neg (by omega)]; exact hj
 size := by rw [t.size]; exact Nat.le_refl _
 shape := t.shapes
 os := t.os
 tape := t.tape
 output := t.output
 frame := fun b _ hno => t.other b fun e => hno id l hro hl e.symm
 fresh := fun j lj hj => by
  simp only [upd] at hj
  split at hj
  ·rename_i he; cases hj; exact .inr ⟨by omega, by omega, .inr ⟨id, l, hro, hl, rfl⟩⟩
  ·exact .inl hj
 le := Nat.le_succ c
 cap := fun _ => hc
theorem fillV_ok {ev : Nat → Value → Prop} {place : Nat → Option (Nat × Nat)} : ∀ {ps : List (Nat × V)} {us : List (Nat × Value)} {cells out : List V} {vcells : Array Value}, ps.length = us.length →
  (∀ (j : Nat) (p : Nat × V) (q : Nat × Value), ps[j]? = some p → us[j]? = some q → p.1 = q.1 ∧ VR w ρ p.2 q.2) → VC w ρ cells vcells.toList → fillV place cells ps = some out →
  ∃ vout, Instr.fill place vcells us = some vout ∧ VC w ρ out vout.toList
 | [], [], cells, out, vcells, _, _, hc, ho => by
  simp only [fillV, Option.some.injEq] at ho;subst ho;exact ⟨vcells, by simp [Instr.fill], hc⟩
 | (i, v) :: ps, (j, u) :: us, cells, out, vcells, hl, hp, hc, ho => by
  obtain ⟨h1, h2⟩ := hp 0 (i, v) (j, u) rfl rfl;simp only at h1 h2;subst h1;simp only [fillV] at ho
  cases hpl : place i with
  | none => simp [hpl] at ho
  | some os =>
   obtain ⟨off, size⟩ := os;simp only [hpl] at ho
   cases hcnd : (v.okC && Nat.beq v.cells.length size && Nat.ble (off + size) cells.length) with
   | false => rw [hcnd] at ho; cases ho
   | true =>
    rw [hcnd, cond_true] at ho;simp only [Bool.and_eq_true] at hcnd;obtain ⟨⟨c1, c2⟩, c3⟩ := hcnd;have c2 := Nat.eq_of_beq_eq_true c2;have c3 := Nat.le_of_ble_eq_true c3;have hvc := h2.cells c1
    have hl1 : u.cells.size = size := by rw [← Array.length_toList, hvc.length, c2]
    have hl2 : off + u.cells.size ≤ vcells.size := by rw [hl1, ← Array.length_toList (xs := vcells), hc.length]; exact c3
    have hset : (u.cells.zipIdx.foldl (fun cs (c, j) => cs.setIfInBounds (off + j) c) vcells).toList = setAt vcells.toList off u.cells.toList := by
     have := Sim.foldl_set off u.cells.toList 0 vcells (by simpa using hl2);simp only [Nat.add_zero] at this;rw [← Array.foldl_toList, Array.toList_zipIdx];exact this
    obtain ⟨vout, h3, h4⟩ := fillV_ok (ev := ev) (vcells := u.cells.zipIdx.foldl (fun cs (c, j) => cs.setIfInBounds (off + j) c) vcells) (by simpa using hl) (fun j p q h5 h6 => hp (j + 1) p q (by simpa using h5) (by simpa using h6)) (by rw [hset]; exact hc.setAt off hvc) ho;refine ⟨vout, ?_, h4⟩;simp only [Instr.fill, hpl];rw [if_neg (by simp [hl1]; omega)];exact h3
 | [], _ :: _, _, _, _, h, _, _, _ => by simp at h
 | _ :: _, [], _, _, _, h, _, _, _ => by simp at h
theorem zeroK_spec {t : TypeId} {zs : List Value} (h : zeroK P t = some zs) : ∃ i z, P.info? t = some i ∧ i.zero = some z ∧ z.cells.toList = zs := by
 unfold zeroK at h
 cases hi : P.info? t with
 | none => simp [hi] at h
 | some i =>
  cases hz : i.zero with
  | none => simp [hi, hz] at h
  | some z => simp [hi, hz] at h; exact ⟨i, z, rfl, hz, h⟩
theorem run_zeroValue {t : TypeId} {i : TypeInfo} {z : Value} (hi : P.info? t = some i) (hz : i.zero = some z) : (zeroValue t).run P w = .ok z w := by
 simp [zeroValue, typeInfo, hi, hz]
def PartsR (w : World) (ρ : Rh) (ps : List (Nat × V)) (us : List (Nat × Value)) : Prop := ps.length = us.length ∧ ∀ (j : Nat) (p : Nat × V) (q : Nat × Value), ps[j]? = some p → us[j]? = some q → p.1 = q.1 ∧ VR w ρ p.2 q.2
theorem run_mapM_fields {fs : List Field} {pl : List (Nat × Nat)} (h : fs.mapM (fun f => (P.info? f.type).map fun i => (f.offset, i.size)) = some pl) : (fs.mapM (fun (f : Field) => (do pure (f.offset, ← sizeOf f.type) : Sem (Nat × Nat)))).run P w = .ok pl w := by
 induction fs generalizing pl with
 | nil => simp at h; subst h; simp
 | cons f fs ih =>
  rw [List.mapM_cons] at h
  cases hi : P.info? f.type with
  | none => simp [hi] at h
  | some i =>
   cases hm : fs.mapM (fun f => (P.info? f.type).map fun i => (f.offset, i.size)) with
   | none => simp [hi, hm] at h
   | some pl' =>
    simp [hi, hm] at h
    subst h;rw [List.mapM_cons]
    have h1 : (sizeOf f.type).run P w = .ok i.size w := by simp [sizeOf, typeInfo, hi]
    simp only [Sem.run_bind, h1, ih hm, Result.andThen_ok, Sem.run_pure]
theorem g_build (hr : Rel w0 ρ h w) {t : TypeId} {ps : List (Nat × V)} {us : Array (Nat × Value)} (hp : PartsR w ρ ps us.toList) : Good P w0 ro c ρ w (vS (Instr.build t us)) (oBuild P h c t ps) := by
 unfold oBuild
 split
 ·rename_i zs pl hz hpl
  cases h1 : zs.all Value.oneCell' with
  | false => trivial
  | true =>
   rw [cond_true];obtain ⟨i, z, hi, hz', hzs⟩ := zeroK_spec hz
   cases hf : fillV pl (zs.map .lit) ps with
   | none => trivial
   | some l =>
    obtain ⟨vout, g1, g2⟩ := fillV_ok (w := w) (ρ := ρ) (ev := fun _ _ => True) (vcells := z.cells) hp.1 hp.2 (by rw [hzs]; exact VC.lits (List.all_eq_true.1 h1)) hf;refine good_same (u := .agg vout) hr ?_ (by have := VR.agg g2; simpa using this);unfold placeOf at hpl
    split at hpl
    ·rename_i fs hu
     split at hpl
     ·rename_i pl' hpk
      simp only [Option.some.injEq] at hpl;subst hpl;unfold placesK at hpk;rw [hu] at hpk;have hm := run_mapM_fields (w := w) hpk
      have hm' : (fs.mapM (fun (f : Field) => (do pure (f.offset, ← sizeOf f.type) : Sem (Nat × Nat)))).run P w = .ok pl'.toArray w := by
       rw [Array.mapM_eq_mapM_toList];simp only [Sem.run_map, hm, Result.andThen_ok]
      have hfun : (fun (x : Nat) => pl'.toArray[x]?) = fun i => pl'[i]? := by funext i; simp
      simp only [Instr.build, Sem.run_bind, run_zeroValue hi hz', Result.andThen_ok, run_underlying hu, hm', hfun, g1, Sem.run_pure]
     ·cases hpl
    ·rename_i n e hu
     split at hpl
     ·rename_i k b hty
      simp only [Option.some.injEq] at hpl;subst hpl;simp only [Instr.build, Sem.run_bind, run_zeroValue hi hz', Result.andThen_ok, run_underlying hu, Sim.run_sizeOf hty, g1, Sem.run_pure]
     ·cases hpl
    ·cases hpl
 ·trivial
end
end Go.Ex
namespace Go.Ex
open Go.Sim (tyK fieldK zeroK placesK appK flatK setAt run_isAgg run_loadVar_agg run_loadVar_one run_storeAt run_alloc run_box run_fieldAt fieldK_spec toList_inj appK_spec run_storeCells)
section
variable {P : Program} {w0 : World} {ro c : Nat} {ρ : Rh} {h : H} {w : World}
theorem slTy_ok {t e : TypeId} (h : slTy P t = some e) : P.underlying t = some (.slice e) := by
 unfold slTy at h
 split at h
 ·rename_i he; simp at h; subst h; exact he
 ·cases h
theorem zeros_list {z : Array Value} {k : Nat} (hk : z.size = k) : ∀ n, (List.range (n * k)).map (fun i => z[i % k]!) = (List.replicate n z.toList).flatten
 | 0 => by simp
 | n + 1 => by
  rw [Nat.add_mul, Nat.one_mul, Nat.add_comm, List.range_add, List.map_append, List.replicate_succ, List.flatten_cons]
  congr 1
  ·apply List.ext_getElem?
   intro i;simp only [List.getElem?_map]
   rcases Nat.lt_or_ge i k with h | h
   ·rw [List.getElem?_range h];simp only [Option.map_some, Nat.mod_eq_of_lt h];rw [getElem!_pos z i (by omega), List.getElem?_eq_getElem (by simp; omega)]
    simp
   ·rw [List.getElem?_eq_none (by simpa using h), List.getElem?_eq_none (by simp; omega)]
    rfl
  ·rw [← zeros_list hk n, List.map_map]
   apply List.map_congr_left
   intro i _
   simp [Nat.add_mod_left]
theorem zeros_vc {zs : List Value} (h1 : zs.all Value.oneCell' = true) : ∀ n, VC w ρ (zerosOf zs n) (List.replicate n zs).flatten
 | 0 => by simpa [zerosOf] using VC.nil
 | n + 1 => by
  rw [List.replicate_succ, List.flatten_cons];exact (VC.lits (List.all_eq_true.1 h1)).append (zeros_vc h1 n)
theorem g_buildSlice (hr : Rel w0 ρ h w) (hd : Dom ρ c) {t : TypeId} {n : Nat} {ps : List (Nat × V)} {us : Array (Nat × Value)} (hp : PartsR w ρ ps us.toList) : Good P w0 ro c ρ w (vS (Instr.buildSlice t n us)) (oBuildSlice P h c t n ps) := by
 unfold oBuildSlice
 cases he : slTy P t with
 | none => trivial
 | some e =>
  have hu := slTy_ok he;dsimp only
  split
  ·rename_i k b zs hty hz
   cases hc : (zs.all Value.oneCell' && Nat.beq zs.length (k + 1) && Nat.ble (n * (k + 1)) 16777216) with
   | false => trivial
   | true =>
    rw [cond_true];simp only [Bool.and_eq_true] at hc;obtain ⟨⟨c1, c2⟩, c3⟩ := hc;have c2 := Nat.eq_of_beq_eq_true c2;have c3 := Nat.le_of_ble_eq_true c3;obtain ⟨i, z, hi, hz', hzs⟩ := zeroK_spec hz
    have hzsz : z.cells.size = k + 1 := by rw [← Array.length_toList, hzs, c2]
    cases hf : fillV (fun i => some (i * (k + 1), k + 1)) (zerosOf zs n) ps with
    | none => trivial
    | some l =>
     by_cases hn : n = 0
     ·subst hn;obtain ⟨vout, g1, g2⟩ := fillV_ok (w := w) (ρ := ρ) (ev := fun _ _ => True) (vcells := #[]) hp.1 hp.2 (by simpa [zerosOf] using VC.nil) hf;refine good_new (u := .slice (some ⟨w.heap.size, 0, none⟩) 0 0) (o := .cells vout e) hr hd ?_ (br_cells hd g2) (.sl (l := ⟨w.heap.size, 0⟩) (upd_self _) (Nat.le_refl _) (Nat.zero_le _) rfl (.inl rfl));simp only [Instr.buildSlice, Sem.run_bind, run_underlying hu, Result.andThen_ok, Sim.run_sizeOf hty];rw [if_neg (by omega)];simp only [Nat.zero_mul, if_true, Sem.run_bind, Sem.run_pure, Result.andThen_ok]
      have : (Array.range 0).map (fun x => (#[] : Array Value)[x % (#[] : Array Value).size]!) = #[] := by simp
      rw [this, g1]
      simp [newRow]
     ·have hne : ¬ (n * (k + 1) = 0) := by
       intro h0
       rcases Nat.mul_eq_zero.1 h0 with h0 | h0 <;> omega
      have hzl : ((Array.range (n * (k + 1))).map (fun x => z.cells[x % z.cells.size]!)).toList = (List.replicate n zs).flatten := by
       rw [← hzs, ← zeros_list hzsz n, hzsz]
       simp
      obtain ⟨vout, g1, g2⟩ := fillV_ok (w := w) (ρ := ρ) (ev := fun _ _ => True) (vcells := (Array.range (n * (k + 1))).map (fun x => z.cells[x % z.cells.size]!)) hp.1 hp.2 (by rw [hzl]; exact zeros_vc c1 n) hf
      have hml : n ≤ maxLen := by
       have : n ≤ n * (k + 1) := Nat.le_mul_of_pos_right _ (Nat.succ_pos k);exact Nat.le_trans (Nat.le_trans this c3) (by decide)
      have hsz : vout.size = n * (k + 1) := by
       have h1 := fillV_len hf;have h2 := g2.length;rw [Array.length_toList, h1] at h2;rw [h2];have := (zeros_vc (w := w) (ρ := ρ) c1 n).length;rw [← this]
       simp [c2]
      refine good_new (u := .slice (some ⟨w.heap.size, 0, none⟩) n n) (o := .cells vout e) hr hd ?_ (br_cells hd g2) (.sl (l := ⟨w.heap.size, 0⟩) (p := 0) (upd_self _) (Nat.le_refl _) hml rfl (.inr ⟨rfl, vout, e, _, heap_alloc_new w (.cells vout e), by omega⟩));simp only [Instr.buildSlice, Sem.run_bind, run_underlying hu, Result.andThen_ok, Sim.run_sizeOf hty];rw [if_neg (show ¬ (n * (k + 1) > 2 ^ 24) from Nat.not_lt.2 c3)];simp only [Sem.run_bind, Sem.run_pure, Result.andThen_ok, if_neg hne, run_zeroValue hi hz', g1]
      simp [newRow]
  ·trivial
where
 fillV_len {place : Nat → Option (Nat × Nat)} : ∀ {ps : List (Nat × V)} {cells out : List V}, fillV place cells ps = some out → out.length = cells.length := by
  intro ps
  induction ps with
  | nil => intro cells out h; simp only [fillV, Option.some.injEq] at h; rw [h]
  | cons p ps ih =>
   obtain ⟨i, v⟩ := p;intro cells out h;simp only [fillV] at h
   split at h
   ·cases h
   ·rename_i off size hpl
    cases hc : (v.okC && Nat.beq v.cells.length size && Nat.ble (off + size) cells.length) with
    | false => rw [hc] at h; cases h
    | true =>
     rw [hc, cond_true] at h;simp only [Bool.and_eq_true] at hc;have c2 := Nat.eq_of_beq_eq_true hc.1.2;have c3 := Nat.le_of_ble_eq_true hc.2;rw [ih h];simp only [setAt, List.length_append, List.length_take, List.length_drop]
     omega
theorem zerosOf_len {zs : List Value} : ∀ n, (zerosOf zs n).length = n * zs.length
 | 0 => by simp [zerosOf]
 | n + 1 => by simp [zerosOf, zerosOf_len n, Nat.add_mul, Nat.add_comm]
theorem zerosOf_take {zs : List Value} : ∀ {n m : Nat}, n ≤ m → (zerosOf zs m).take (n * zs.length) = zerosOf zs n
 | 0, m, _ => by simp [zerosOf]
 | n + 1, 0, h => by omega
 | n + 1, m + 1, h => by
  have := zerosOf_take (zs := zs) (n := n) (m := m) (by omega);simp only [zerosOf];rw [show (n + 1) * zs.length = (zs.map V.lit).length + n * zs.length by rw [List.length_map, Nat.add_mul]; omega, List.take_length_add_append, this]
theorem g_makeSlice (hr : Rel w0 ρ h w) (hd : Dom ρ c) {t : TypeId} {l cp : V} {ul uc : Value} (hl : VR w ρ l ul) (hc : VR w ρ cp uc) : Good P w0 ro c ρ w (vS (Instr.makeSlice t ul uc)) (oMakeSlice P h c t l cp) := by
 unfold oMakeSlice
 split
 ·rename_i e n m he
  have := hl.lit_inv; subst this;have := hc.lit_inv; subst this;have hu := slTy_ok he
  split
  ·rename_i k b zs hty hz
   cases hcnd : (Nat.beq n m && zs.all Value.oneCell' && Nat.beq zs.length (k + 1) && Nat.ble n 65536 && byOk P e) with
   | false =>
    rw [cond_false]
    cases hcnd : (Nat.ble n m && zs.all Value.oneCell' && Nat.beq zs.length (k + 1) && Nat.ble m 65536 && byOk P e) with
    | false => trivial
    | true =>
     simp only [Bool.and_eq_true] at hcnd;obtain ⟨⟨⟨⟨c1, c2⟩, c3⟩, c4⟩, c5⟩ := hcnd;have c1 := Nat.le_of_ble_eq_true c1;have c3 := Nat.eq_of_beq_eq_true c3;have c4 := Nat.le_of_ble_eq_true c4;obtain ⟨i, z, hi, hz', hzs⟩ := zeroK_spec hz
     have hby : i.bytes ≤ 1048576 ∧ i.size ≤ 256 := by
      unfold byOk at c5; rw [hi] at c5;simp only [Bool.and_eq_true] at c5;exact ⟨Nat.le_of_ble_eq_true c5.1, Nat.le_of_ble_eq_true c5.2⟩
     have hzsz : z.cells.size = k + 1 := by rw [← Array.length_toList, hzs, c3]
     have hsz : i.size = k + 1 := by
      unfold tyK at hty;rw [hi] at hty
      split at hty
      ·rename_i d1 d2 h1 h2
       simp only [Option.some.injEq, Prod.mk.injEq] at h1 hty;rw [h1]; exact hty.1
      ·cases hty
     rw [cond_true, forceN_eq]
     have hbm : (i.bytes : Int) * (m : Int) ≤ 281474976710656 := by
      have : i.bytes * m ≤ 1048576 * 65536 := Nat.mul_le_mul hby.1 c4;have h2 : ((i.bytes * m : Nat) : Int) ≤ ((1048576 * 65536 : Nat) : Int) := Int.ofNat_le.2 this;rw [Int.natCast_mul] at h2
      omega
     have hcl : m * i.size ≤ 16777216 := Nat.le_trans (Nat.mul_le_mul c4 hby.2) (by decide);have hrun := run_makeSlice (P := P) (w := w) t e i z hu hi hz' .i64 .i64 (Int.ofNat n) (Int.ofNat m) (Int.natCast_nonneg n) (Int.ofNat_le.2 c1) hcl hbm (by show (m : Int) ≤ _; omega)
     have hzl : (madeCells z.cells (m * i.size)).toList = (List.replicate m zs).flatten := by
      rw [← hzs, ← zeros_list hzsz m, hsz]
      simp [madeCells, hzsz]
     have hvc : VC w ρ (zerosOf zs m) (madeCells z.cells (m * i.size)).toList := by rw [hzl]; exact zeros_vc c2 m
     refine good_new (u := .slice (some ⟨w.heap.size, 0, none⟩) n m) (o := .cells (madeCells z.cells (m * i.size)) e) hr hd hrun ⟨_, e, heap_alloc_new w _, ?_, ?_⟩ (.sl (l := ⟨w.heap.size, 0⟩) (p := 0) (upd_self _) c1 (Nat.le_trans c4 (by decide)) rfl (.inr ⟨rfl, _, e, _, heap_alloc_new w (.cells (madeCells z.cells (m * i.size)) e), ?_⟩))
     ·rw [zerosOf_len, size_madeCells, hsz, c3, Nat.zero_add]; exact Nat.mul_le_mul_right _ c1
     ·have h3 := new_vc (o := .cells (madeCells z.cells (m * i.size)) e) hd (hvc.take (n * zs.length));rw [zerosOf_take c1] at h3;rw [List.drop_zero, zerosOf_len];exact h3
     ·rw [size_madeCells, hsz]; omega
   | true =>
    simp only [Bool.and_eq_true] at hcnd;obtain ⟨⟨⟨⟨c1, c2⟩, c3⟩, c4⟩, c5⟩ := hcnd;have c1 := Nat.eq_of_beq_eq_true c1;subst c1;have c3 := Nat.eq_of_beq_eq_true c3;have c4 := Nat.le_of_ble_eq_true c4;obtain ⟨i, z, hi, hz', hzs⟩ := zeroK_spec hz
    have hby : i.bytes ≤ 1048576 ∧ i.size ≤ 256 := by
     unfold byOk at c5; rw [hi] at c5;simp only [Bool.and_eq_true] at c5;exact ⟨Nat.le_of_ble_eq_true c5.1, Nat.le_of_ble_eq_true c5.2⟩
    have hzsz : z.cells.size = k + 1 := by rw [← Array.length_toList, hzs, c3]
    have hsz : i.size = k + 1 := by
     unfold tyK at hty;rw [hi] at hty
     split at hty
     ·rename_i d1 d2 h1 h2
      simp only [Option.some.injEq, Prod.mk.injEq] at h1 hty;rw [h1]; exact hty.1
     ·cases hty
    rw [cond_true, forceN_eq]
    have hbm : (i.bytes : Int) * (n : Int) ≤ 281474976710656 := by
     have : i.bytes * n ≤ 1048576 * 65536 := Nat.mul_le_mul hby.1 c4;have h2 : ((i.bytes * n : Nat) : Int) ≤ ((1048576 * 65536 : Nat) : Int) := Int.ofNat_le.2 this;rw [Int.natCast_mul] at h2
     omega
    have hcl : n * i.size ≤ 16777216 := Nat.le_trans (Nat.mul_le_mul c4 hby.2) (by decide);have hrun := run_makeSlice (P := P) (w := w) t e i z hu hi hz' .i64 .i64 (Int.ofNat n) (Int.ofNat n) (Int.natCast_nonneg n) (Int.le_refl _) hcl hbm (by show (n : Int) ≤ _; omega)
    have hzl : (madeCells z.cells (n * i.size)).toList = (List.replicate n zs).flatten := by
     rw [← hzs, ← zeros_list hzsz n, hsz]
     simp [madeCells, hzsz]
    refine good_new (u := .slice (some ⟨w.heap.size, 0, none⟩) n n) (o := .cells (madeCells z.cells (n * i.size)) e) hr hd hrun (br_cells hd (by rw [hzl]; exact zeros_vc c2 n)) (.sl (l := ⟨w.heap.size, 0⟩) (p := 0) (upd_self _) (Nat.le_refl _) (Nat.le_trans c4 (by decide)) rfl (.inr ⟨rfl, _, e, _, heap_alloc_new w (.cells (madeCells z.cells (n * i.size)) e), ?_⟩));rw [size_madeCells, hsz]; omega
  ·trivial
 ·trivial
end
end Go.Ex
namespace Go.Ex
open Go.Sim (tyK fieldK zeroK placesK appK flatK setAt run_isAgg run_loadVar_agg run_loadVar_one run_storeAt run_alloc run_box run_fieldAt fieldK_spec toList_inj appK_spec run_storeCells)
section
variable {P : Program} {w0 : World} {ro c : Nat} {ρ : Rh} {h : H} {w : World}
inductive OR (w : World) (ρ : Rh) : Option V → Option Value → Prop
  | none : OR w ρ none none
  | some {v : V} {u : Value} (h : VR w ρ v u) : OR w ρ (some v) (some u)
theorem bound_some {v : V} {u : Value} {d tp n : Nat} (hv : VR w ρ v u) (hb : bound (some v) d tp = some n) : ∃ k, u = .int k (n : Int) ∧ n ≤ tp := by
  unfold bound at hb
  dsimp only at hb
  cases hi : intOf v with
  | none => rw [hi] at hb; cases hb
  | some z =>
    rw [hi] at hb
    cases z with
    | negSucc m => cases hb
    | ofNat m =>
      dsimp only at hb
      obtain ⟨k, rfl⟩ := intOf_ok hv hi
      cases hc : Nat.ble m tp with
      | false => rw [hc] at hb; cases hb
      | true =>
        rw [hc, cond_true, forceN_eq] at hb
        simp only [Option.some.injEq] at hb
        subst hb
        exact ⟨k, rfl, Nat.le_of_ble_eq_true hc⟩
theorem run_bound {k : IntKind} {n tp : Nat} (hn : n ≤ tp) (code : BoundsCode) : (Instr.sliceBound (.int k (n : Int)) tp code).run P w = .ok n w := by
  have : (0 : Int) ≤ (n : Int) ∧ (n : Int) ≤ (tp : Int) := by omega
  simp [Instr.sliceBound, asIntOf, this]
theorem run_bounds {isS : Bool} {len cap a b : Nat} {lo hi : Option V} {lo' hi' : Option Value} (hlo : OR w ρ lo lo') (hhi : OR w ρ hi hi') (hlc : len ≤ cap) {tp : Nat} (htp : tp ≤ cap) (hb : bound hi len tp = some b) (ha : bound lo 0 b = some a) :
    (Instr.sliceBounds isS len cap lo' hi' none).run P w = .ok (a, b, cap) w ∧ a ≤ b ∧ b ≤ cap := by
  have key : (∃ k, hi' = some (.int k (b : Int)) ∧ b ≤ tp) ∨ (hi' = none ∧ b = len) := by
    cases hhi with
    | none => right; simp [bound] at hb; exact ⟨rfl, hb.symm⟩
    | some hv => left; obtain ⟨k, h1, h2⟩ := bound_some hv hb; exact ⟨k, by rw [h1], h2⟩
  have key2 : (∃ k, lo' = some (.int k (a : Int)) ∧ a ≤ b) ∨ (lo' = none ∧ a = 0) := by
    cases hlo with
    | none => right; simp [bound] at ha; exact ⟨rfl, ha.symm⟩
    | some hv => left; obtain ⟨k, h1, h2⟩ := bound_some hv ha; exact ⟨k, by rw [h1], h2⟩
  have hbl : b ≤ cap := by rcases key with ⟨_, _, h⟩ | ⟨_, h⟩ <;> omega
  have hab : a ≤ b := by rcases key2 with ⟨_, _, h⟩ | ⟨_, h⟩ <;> omega
  refine ⟨?_, hab, hbl⟩
  rcases key with ⟨k, rfl, _⟩ | ⟨rfl, rfl⟩ <;> rcases key2 with ⟨k2, rfl, _⟩ | ⟨rfl, rfl⟩ <;>
    simp [Instr.sliceBounds, run_bound (P := P) (w := w) hab, run_bound (P := P) (w := w) (show b ≤ cap by omega)]
theorem run_bounds3 {isS : Bool} {len cap a b m : Nat} {lo : Option V} {hi mx : V} {lo' : Option Value} {hi' mx' : Value} (hlo : OR w ρ lo lo') (hhi : VR w ρ hi hi') (hmx : VR w ρ mx mx') (hlc : len ≤ cap) (hm : bound (some mx) 0 len = some m) (hb : bound (some hi) len m = some b) (ha : bound lo 0 b = some a) :
    (Instr.sliceBounds isS len cap lo' (some hi') (some mx')).run P w = .ok (a, b, m) w ∧ a ≤ b ∧ b ≤ m ∧ m ≤ len := by
  obtain ⟨k1, rfl, h1⟩ := bound_some hmx hm
  obtain ⟨k2, rfl, h2⟩ := bound_some hhi hb
  have key2 : (∃ k, lo' = some (.int k (a : Int)) ∧ a ≤ b) ∨ (lo' = none ∧ a = 0) := by
    cases hlo with
    | none => right; simp [bound] at ha; exact ⟨rfl, ha.symm⟩
    | some hv => left; obtain ⟨k, h1, h2⟩ := bound_some hv ha; exact ⟨k, by rw [h1], h2⟩
  have hab : a ≤ b := by rcases key2 with ⟨_, _, h⟩ | ⟨_, h⟩ <;> omega
  refine ⟨?_, hab, h2, h1⟩
  rcases key2 with ⟨k, rfl, _⟩ | ⟨rfl, rfl⟩ <;>
    simp [Instr.sliceBounds, run_bound (P := P) (w := w) hab, run_bound (P := P) (w := w) h2, run_bound (P := P) (w := w) (show m ≤ cap by omega)]
theorem ble_if (n m : Nat) : (bif Nat.ble n m then m else n) = max n m := by
  cases h : Nat.ble n m with
  | true => have := Nat.le_of_ble_eq_true h; rw [cond_true]; omega
  | false => have : ¬ n ≤ m := fun e => by rw [Nat.ble_eq_true_of_le e] at h; cases h
             rw [cond_false]; omega
theorem cp_lb {cap : Cp} {n m : Nat} (h1 : n ≤ m) (h : cap.Ok m) : cap.lb n ≤ m := by
  cases cap with
  | un => exact h1
  | ge k => simp only [Cp.Ok] at h; simp only [Cp.lb, ble_if]; omega
  | ex k => simp only [Cp.Ok] at h; simp only [Cp.lb]; omega
theorem cp_low {cap : Cp} {n m : Nat} (h1 : n ≤ m) (h : cap.Ok m) : (cap.low n).Ok m := by
  cases cap with
  | un => exact h1
  | ge k => simp only [Cp.Ok] at h; simp only [Cp.low, ble_if, Cp.Ok]; omega
  | ex k => exact h
theorem cp_sub {cap : Cp} {a m : Nat} (h : cap.Ok m) : (cap.sub a).Ok (m - a) := by
  cases cap with
  | un => trivial
  | ge k => simp only [Cp.Ok] at h; simp only [Cp.sub, Cp.Ok]; omega
  | ex k => simp only [Cp.Ok] at h; simp only [Cp.sub, Cp.Ok]; omega
theorem vr_cut {id off k cap' p : Nat} {l : Loc} (hl : ρ id = some l) (h2 : cap' ≤ maxLen) (h4 : cap' = 0 ∨ (p = l.o + off ∧ ∃ vs t fr, w.heap[l.b]? = some (.cells vs t fr) ∧ p + cap' * k ≤ vs.size)) {a b m : Nat} (hab : a ≤ b) (hbm : b ≤ m) (hm : m ≤ cap') (o : Cp) (ho : o.Ok (m - a)) :
    VR w ρ (.sl id (off + a * k) (b - a) k o) (.slice (if m = a then some ⟨l.b, p, none⟩ else some ⟨l.b, p + a * k, none⟩) (b - a) (m - a)) := by
  have hcap : m - a ≤ maxLen := Nat.le_trans (Nat.le_trans (Nat.sub_le _ _) hm) h2
  by_cases hma : m = a
  · rw [if_pos hma]
    exact .sl hl (by omega) hcap ho (.inl (by omega))
  · rw [if_neg hma]
    rcases h4 with h4 | ⟨h4, vs, t, fr, h5, h6⟩
    · omega
    · refine .sl hl (by omega) hcap ho (.inr ⟨by omega, vs, t, fr, h5, ?_⟩)
      have h7 : (m - a) * k + a * k = m * k := by rw [← Nat.add_mul]; congr 1; omega
      have h8 : m * k ≤ cap' * k := Nat.mul_le_mul_right _ hm
      omega
theorem g_slSl (hr : Rel w0 ρ h w) {t e : TypeId} {x : V} {u : Value} {lo hi mx : Option V} {lo' hi' mx' : Option Value} (hu : P.underlying t = some (.slice e)) (hx : VR w ρ x u) (hlo : OR w ρ lo lo') (hhi : OR w ρ hi hi') (hmx : OR w ρ mx mx') :
    Good P w0 ro c ρ w (vS (Instr.sliceAt t u lo' hi' mx')) (slS P h c e x lo hi mx) := by
  unfold slS
  split
  · rename_i k' b0 hty
    unfold slX
    split
    · rename_i id off n k cap
      cases hk : Nat.beq k k' with
      | false => trivial
      | true =>
        have hk := Nat.eq_of_beq_eq_true hk
        subst hk
        rw [cond_true]
        cases hx with
        | @sl _ _ _ _ cap' p _ l hl h1 h2 h3 h4 =>
          unfold slSl
          cases hmx with
          | none =>
            dsimp only
            unfold cutSl lowOf
            cases hb : bound hi n (cap.lb n) with
            | none => trivial
            | some b =>
              dsimp only
              cases ha : bound lo 0 b with
              | none => trivial
              | some a =>
                dsimp only
                rw [forceN_eq, forceN_eq]
                obtain ⟨g1, g2, g3⟩ := run_bounds (P := P) (isS := true) hlo hhi h1 (cp_lb h1 h3) hb ha
                refine good_same hr ?_ (vr_cut hl h2 h4 g2 g3 (Nat.le_refl _) _ ?_)
                · simp only [Instr.sliceAt, Instr.slice, Sem.run_bind, run_underlying hu, Result.andThen_ok, g1, Sim.run_sizeOf hty, Sem.run_pure, Option.map_some, addr_add]
                · exact cp_sub (cp_low h1 h3)
          | @some mv mu hm =>
            dsimp only
            cases hhi with
            | none => trivial
            | @some hv hu' hh =>
              cases hbm : bound (some mv) 0 n with
              | none => trivial
              | some m =>
                dsimp only
                unfold cutSl lowOf
                cases hb : bound (some hv) n m with
                | none => trivial
                | some b =>
                  dsimp only
                  cases ha : bound lo 0 b with
                  | none => trivial
                  | some a =>
                    dsimp only
                    rw [forceN_eq, forceN_eq]
                    obtain ⟨g1, g2, g3, g4⟩ := run_bounds3 (P := P) (isS := true) hlo hh hm h1 hbm hb ha
                    refine good_same hr ?_ (vr_cut hl h2 h4 g2 g3 (Nat.le_trans g4 h1) _ rfl)
                    simp only [Instr.sliceAt, Instr.slice, Sem.run_bind, run_underlying hu, Result.andThen_ok, g1, Sim.run_sizeOf hty, Sem.run_pure, Option.map_some, addr_add]
    · have := hx.lit_inv; subst this
      unfold slNil
      split
      · rename_i b a h1 h2
        cases hmx with
        | none =>
          have ha0 : bound lo 0 0 = some 0 := by
            cases hlo with
            | none => rfl
            | some hv =>
              obtain ⟨_, _, h⟩ := bound_some hv h2
              rw [Nat.le_zero.1 h] at h2; exact h2
          have hb0 : bound hi 0 0 = some 0 := by
            cases hhi with
            | none => rfl
            | some hv =>
              obtain ⟨_, _, h⟩ := bound_some hv h1
              rw [Nat.le_zero.1 h] at h1; exact h1
          obtain ⟨g1, _, _⟩ := run_bounds (P := P) (isS := true) hlo hhi (Nat.le_refl 0) (Nat.le_refl 0) hb0 ha0
          refine good_lit hr ?_
          simp only [Instr.sliceAt, Instr.slice, Sem.run_bind, run_underlying hu, Result.andThen_ok, g1, Sim.run_sizeOf hty, Sem.run_pure]
          rfl
      · trivial
    · trivial
  · trivial
theorem extract_list (s : ByteArray) (a b : Nat) : s.extract a b = ⟨⟨(s.data.toList.drop a).take (b - a)⟩⟩ := by
  rw [ByteArray.ext_iff, ByteArray.data_extract]
  apply Array.toList_inj.1
  simp [Array.toList_extract]
theorem g_slice (hr : Rel w0 ρ h w) {t : TypeId} {x : V} {u : Value} {lo hi mx : Option V} {lo' hi' mx' : Option Value} (hx : VR w ρ x u) (hlo : OR w ρ lo lo') (hhi : OR w ρ hi hi') (hmx : OR w ρ mx mx') :
    Good P w0 ro c ρ w (vS (Instr.sliceAt t u lo' hi' mx')) (oSlice P h c t x lo hi mx) := by
  unfold oSlice
  split
  · rename_i e hu; exact g_slSl hr hu hx hlo hhi hmx
  · rename_i hu
    split
    · have := hx.lit_inv; subst this
      rename_i s
      unfold slStr
      cases hmx with
      | some _ => trivial
      | none =>
        dsimp only
        unfold lowOf
        cases hb : bound hi s.data.toList.length s.data.toList.length with
        | none => trivial
        | some b =>
          dsimp only
          cases ha : bound lo 0 b with
          | none => trivial
          | some a =>
            dsimp only
            obtain ⟨g1, g2, g3⟩ := run_bounds (P := P) (isS := false) hlo hhi (Nat.le_refl _) (Nat.le_refl _) hb ha
            have hsz : s.size = s.data.toList.length := Array.length_toList.symm
            refine good_lit hr ?_
            simp only [Instr.sliceAt, Instr.slice, Sem.run_bind, run_underlying hu, Result.andThen_ok, hsz, g1, Sem.run_pure, Option.isSome_none, Bool.false_eq_true, if_false, extract_list]
    · trivial
  · rename_i n e hu
    split
    · rename_i id off
      unfold slArr
      split
      · rename_i k b0 lst hty hread
        cases hmx with
        | none =>
          cases hcnd : (Nat.ble (off + n * k) lst.length && Nat.ble n 65536) with
          | false => trivial
          | true =>
            rw [cond_true]
            simp only [Bool.and_eq_true] at hcnd
            have c1 := Nat.le_of_ble_eq_true hcnd.1
            have c2 := Nat.le_of_ble_eq_true hcnd.2
            cases hx with
            | @ptr _ _ l hl =>
              obtain ⟨us, ty, fr, k1, k2, k3⟩ := read_cells hr hl hread
              dsimp only
              unfold cutSl lowOf
              cases hb : bound hi n n with
              | none => trivial
              | some b =>
                dsimp only
                cases ha : bound lo 0 b with
                | none => trivial
                | some a =>
                  dsimp only
                  rw [forceN_eq, forceN_eq]
                  obtain ⟨g1, g2, g3⟩ := run_bounds (P := P) (isS := false) hlo hhi (Nat.le_refl n) (Nat.le_refl n) hb ha
                  refine good_same hr ?_ (vr_cut (p := l.o + off) (cap' := n) hl (Nat.le_trans c2 (by decide)) (.inr ⟨rfl, us, ty, fr, k1, by omega⟩) g2 g3 (Nat.le_refl _) _ rfl)
                  simp only [Instr.sliceAt, Sem.run_bind, run_underlying hu, Result.andThen_ok, g1, Sim.run_sizeOf hty, Sem.run_pure, Instr.sureAddr, addr_add]
                  split <;> rfl
      · trivial
    · trivial
  · trivial
end
end Go.Ex
namespace Go.Ex
open Go.Sim (tyK fieldK zeroK placesK appK flatK setAt run_isAgg run_loadVar_agg run_loadVar_one run_storeAt run_alloc run_box run_fieldAt fieldK_spec toList_inj appK_spec run_storeCells)
section
variable {P : Program} {w0 : World} {ro c : Nat} {ρ : Rh} {h : H} {w : World}
abbrev appS' (t ty : TypeId) (u v : Value) : Sem Value := Builtin.append_ #[t, t] ty #[u, v]
theorem slCells_ok (hr : Rel w0 ρ h w) {id off m : Nat} {l : Loc} {lst : List V} (hl : ρ id = some l) (hs : slCells h id off m = some lst) :
  ∃ us : List Value, VC w ρ lst us ∧ us.length = m ∧ ∀ j u, us[j]? = some u → w.cell? ⟨l.b, l.o + off + j, none⟩ = some u := by
 unfold slCells at hs
 split at hs
 ·rename_i all hb
  obtain ⟨us, t, fr, h1, h2, h3⟩ := read_cells hr hl hb
  cases hc : Nat.ble (off + m) all.length with
  | false => rw [hc] at hs; cases hs
  | true =>
   rw [hc, cond_true] at hs;simp only [Option.some.injEq] at hs;subst hs;have hle := Nat.le_of_ble_eq_true hc;have h4 := (h3.drop off).take m;refine ⟨_, h4, by rw [h4.length, List.length_take, List.length_drop]; omega, fun j u hj => ?_⟩
   have : ((us.toList.drop l.o).take all.length)[off + j]? = some u := by
    rw [List.getElem?_take] at hj
    split at hj
    ·rwa [List.getElem?_drop] at hj
    ·cases hj
   have := cells_get h1 this
   rwa [show l.o + (off + j) = l.o + off + j by omega] at this
 ·cases hs
theorem srcOf_ok (hr : Rel w0 ρ h w) {k m : Nat} {x : V} {v : Value} {lst : List V} (hx : VR w ρ x v) (hs : srcOf h k x = some (lst, m)) (hm : m ≠ 0) (hk : k ≠ 0) :
  ∃ news : List Value, VC w ρ lst news ∧ news.length = m * k ∧ ∃ b o cp, v = .slice (some ⟨b, o, none⟩) m cp ∧ ∀ j u, news[j]? = some u → w.cell? ⟨b, o + j, none⟩ = some u := by
 unfold srcOf at hs
 split at hs
 ·rename_i id off n k' cap
  cases hkk : Nat.beq k k' with
  | false => rw [hkk] at hs; cases hs
  | true =>
   have := Nat.eq_of_beq_eq_true hkk;subst this;rw [hkk, cond_true] at hs
   split at hs
   ·rename_i l' hl'
    simp only [Option.some.injEq, Prod.mk.injEq] at hs;obtain ⟨rfl, rfl⟩ := hs
    cases hx with
    | @sl _ _ _ _ cap' p _ l hl h1 h2 h3 h4 =>
     obtain ⟨us, g1, g2, g3⟩ := slCells_ok hr hl hl';refine ⟨us, g1, g2, l.b, p, cap', rfl, ?_⟩
     rcases h4 with h4 | ⟨h4, _⟩
     ·omega
     ·rw [h4]; exact g3
   ·cases hs
 ·cases hs
theorem vc_drew {l : List V} {us : List Value} (h : VC w ρ l us) : VC w.drew ρ l us := VC.mono (w := w) (w' := w.drew) (fun _ _ h => h) (fun _ vs _ fr h => ⟨vs, fr, h, rfl⟩) h
theorem upon_grown (hr : Rel w0 ρ h w) (hd : Dom ρ c) (hc : c < 1048576) {e : TypeId} {k nm cp : Nat} {lst : List V} {us rest : List Value} (hv : VC w ρ lst us) (hlen : us.length = nm * k) (h1 : nm ≤ cp) (h2 : cp ≤ maxLen) (h3 : us.length + rest.length = cp * k) :
  ∃ ρ', Rel w0 ρ' (hset h c (.cells lst)) (w.drew.alloc (.cells (us ++ rest).toArray e)) ∧ Ext ro c ρ w ρ' (w.drew.alloc (.cells (us ++ rest).toArray e)) (c + 1) ∧
   VR (w.drew.alloc (.cells (us ++ rest).toArray e)) ρ' (.sl c 0 nm k .un) (.slice (some ⟨w.heap.size, 0, none⟩) nm cp) := by
 have hr' := rel_drew hr;have hnew := heap_alloc_new w.drew (.cells (us ++ rest).toArray e);refine ⟨upd ρ c ⟨w.heap.size, 0⟩, rel_new hr' hd hc _ _ ⟨(us ++ rest).toArray, e, hnew, ?_, ?_⟩, (ext_drew (ro := ro)).trans (ext_new hd hc _), .sl (l := ⟨w.heap.size, 0⟩) (upd_self _) h1 h2 trivial (.inr ⟨rfl, _, e, _, hnew, ?_⟩)⟩
 ·have := hv.length; simp; omega
 ·have hl := hv.length;simp only [List.drop_zero];rw [← hl, List.take_left];exact new_vc hd (vc_drew hv)
 ·simp; omega
theorem g_append (hr : Rel w0 ρ h w) (hd : Dom ρ c) {t ty : TypeId} {s x : V} {u v : Value} (hs : VR w ρ s u) (hx : VR w ρ x v) : Good P w0 ro c ρ w (vS (appS' t ty u v)) (append P h c ro t s x) := by
 unfold append
 split
 ·trivial
 ·rename_i e k by_ ha
  obtain ⟨i, z, t1, t2, t3, t4, t5, t6⟩ := appK_spec ha
  cases hz : (Nat.beq k 0 || Nat.beq by_ 0) with
  | true => trivial
  | false =>
   rw [cond_false];simp only [Bool.or_eq_false_iff] at hz
   have hk0 : k ≠ 0 := fun h => by rw [h] at hz; exact absurd hz.1 (by decide)
   have hb0 : by_ ≠ 0 := fun h => by rw [h] at hz; exact absurd hz.2 (by decide)
   cases hsrc : srcOf h k x with
   | none => trivial
   | some lm =>
    obtain ⟨lst, m⟩ := lm;dsimp only
    cases hm : Nat.beq m 0 with
    | true => trivial
    | false =>
     rw [cond_false]
     have hm0 : m ≠ 0 := fun h => by rw [h] at hm; exact absurd hm (by decide)
     obtain ⟨news, n1, n2, b, o, cp, rfl, n3⟩ := srcOf_ok hr hx hsrc hm0 hk0
     have hadd : ∀ j u, news[j]? = some u → w.cell? ((⟨b, o, none⟩ : Addr).add j) = some u := fun j u hj => by rw [Addr.add_lit]; exact n3 j u hj
     unfold appS
     split
     ·-- the nil slice
      have := hs.lit_inv; subst this
      cases hsm : small m by_ with
      | false => trivial
      | true =>
       have hsm := Nat.le_of_ble_eq_true hsm;rw [cond_true, forceN_eq];unfold new
       cases hct : Nat.blt c top with
       | false => trivial
       | true =>
        rw [cond_true];have hmm : m ≤ m * by_ := Nat.le_mul_of_pos_right _ (by omega)
        have hml : m ≤ maxLen := by unfold maxLen; omega
        have hrun := run_append_nil (P := P) w t ty e i z t1 t2 t3 ⟨b, o, none⟩ m cp news (by rw [t4]; exact n2) hadd (by omega) (by omega) (by rw [t5]; omega);show UponE _ _ _ _ _ _ _ _ _;rw [run_vS hrun]
        have hz1 : (news.toArray ++ Builtin.zeroCells z.cells (grownCap w m 0 e - m)) = (news ++ (Builtin.zeroCells z.cells (grownCap w m 0 e - m)).toList).toArray := by simp
        rw [hz1];refine upon_grown hr hd (Nat.le_of_ble_eq_true hct) n1 n2 (grownCap_ge _ _ _ _) (grownCap_le_maxLen _ _ _ _ hml) ?_;rw [n2, Array.length_toList, size_zeroCells, t6, ← Nat.add_mul]
        congr 1
        have := grownCap_ge w m 0 e
        omega
     ·rename_i id off n k' cap
      cases hcnd : (Nat.beq k k' && small (n + m) by_) with
      | false => trivial
      | true =>
       rw [cond_true];simp only [Bool.and_eq_true] at hcnd;have hkk := Nat.eq_of_beq_eq_true hcnd.1;subst hkk;have hsm := Nat.le_of_ble_eq_true hcnd.2;have hmm : n + m ≤ (n + m) * by_ := Nat.le_mul_of_pos_right _ (by omega)
       have hml : n + m ≤ maxLen := by unfold maxLen; omega
       cases hs with
       | @sl _ _ _ _ cap' p _ l hl h1 h2 h3 h4 =>
        -- the grown row
        have grow : ∀ (hh : H) (old : List V) (olds : List Value), Rel w0 ρ hh w → VC w ρ old olds → olds.length = n * k → (∀ j u, olds[j]? = some u → w.cell? ⟨l.b, p + j, none⟩ = some u) → cap' < n + m → c < 1048576 →
          UponE w0 ro c ρ w (.sl c 0 (n + m) k .un) (hset hh c (.cells (old ++ lst))) (c + 1) ((vS (appS' t ty (.slice (some ⟨l.b, p, none⟩) n cap') (.slice (some ⟨b, o, none⟩) m cp))).run P w) := by
         intro hh old olds hrr ho1 ho2 ho3 hlt hct;have hrun := run_append_grow (P := P) w t ty e i z t1 t2 t3 ⟨l.b, p, none⟩ n cap' olds (by rw [t4]; exact ho2) (fun j u hj => by rw [Addr.add_lit]; exact ho3 j u hj) ⟨b, o, none⟩ m cp news (by rw [t4]; exact n2) hadd hlt (by omega) (by rw [t5]; exact growslice_fits hlt hsm);rw [run_vS hrun]
         have hz1 : (olds.toArray ++ news.toArray ++ Builtin.zeroCells z.cells (grownCap w (n + m) cap' e - (n + m))) = ((olds ++ news) ++ (Builtin.zeroCells z.cells (grownCap w (n + m) cap' e - (n + m))).toList).toArray := by simp
         rw [hz1];refine upon_grown hrr hd hct (ho1.append n1) (by rw [List.length_append, ho2, n2, Nat.add_mul]) (grownCap_ge _ _ _ _) (grownCap_le_maxLen _ _ _ _ hml) ?_;rw [List.length_append, ho2, n2, Array.length_toList, size_zeroCells, t6, ← Nat.add_mul, ← Nat.add_mul]
         congr 1
         have := grownCap_ge w (n + m) cap' e
         omega
        have hpo : ∀ j u, (n = 0 → False) → w.cell? ⟨l.b, l.o + off + j, none⟩ = some u → w.cell? ⟨l.b, p + j, none⟩ = some u := by
         intro j u hn hju
         rcases h4 with h4 | ⟨h4, _⟩
         ·exfalso; exact hn (by omega)
         ·rw [h4]; exact hju
        have inPlace : Good P w0 ro c ρ w (vS (appS' t ty (.slice (some ⟨l.b, p, none⟩) n cap') (.slice (some ⟨b, o, none⟩) m cp))) (appIn h c ro k id off n m lst) := by
         unfold appIn
         split
         ·rename_i all hg
          cases hcnd2 : (Nat.ble ro id && Nat.beq (off + n * k) all.length && Nat.blt c top) with
          | false => trivial
          | true =>
           rw [cond_true, forceN_eq];simp only [Bool.and_eq_true] at hcnd2;have hro := Nat.le_of_ble_eq_true hcnd2.1.1;have hall := Nat.eq_of_beq_eq_true hcnd2.1.2;have hct : c < 1048576 := Nat.le_of_ble_eq_true hcnd2.2;have hid := hd id l hl;obtain ⟨us, ty', fr, k1, k2, k3⟩ := read_cells hr hl (show B.read (h.get id) = some all by rw [hg]; rfl)
           have hold : VC w ρ (all.drop off) ((us.toList.drop (l.o + off)).take (n * k)) := by
            have := k3.drop off;rw [List.drop_take, List.drop_drop, show all.length - off = n * k by omega] at this;exact this
           have hol : ((us.toList.drop (l.o + off)).take (n * k)).length = n * k := by
            rw [hold.length, List.length_drop]; omega
           by_cases hfit : n + m ≤ cap'
           ·-- in place
            obtain ⟨hp, vs, t', fr', q1, q2⟩ := h4.resolve_left (by omega);rw [k1] at q1
            cases q1
            obtain ⟨bb, r1, r2, r3, r4⟩ := hr.blk id l hl
            have : bb = .cells all := by rw [hg] at r1; exact (Option.some.inj r1).symm
            subst this;obtain ⟨us', ty'', e1, _, _⟩ := r3;rw [k1] at e1
            cases e1
            have hmk : (n + m) * k ≤ cap' * k := Nat.mul_le_mul_right _ hfit;rw [Nat.add_mul] at hmk
            have hroom : l.o + off + n * k + news.length ≤ us.size := by rw [n2]; omega
            obtain ⟨w', cur', s1, s2, s3, s4, s5, s6, s7, s8⟩ := run_storeCells (P := P) l.b (l.o + off + n * k) _ news 0 us w k1 (by simpa using hroom) n1.one
            have hcs : cur'.size = us.size := by
             rw [← Array.length_toList, s3, ← Array.length_toList (xs := us)];simp only [setAt, List.length_append, List.length_take, List.length_drop, Array.length_toList]
             omega
            have htn : Turn w l.b w' := ⟨s5, s6, s7, s8, s4, fun vs t fr hh => by
             rw [k1] at hh; cases hh; exact ⟨cur', _, s2, hcs⟩⟩
            have hf := run_firstCells_some (P := P) w i.size m ⟨b, o, none⟩ m cp news (by rw [t4]; exact n2) hadd
            have hrun : (appS' t ty (.slice (some ⟨l.b, p, none⟩) n cap') (.slice (some ⟨b, o, none⟩) m cp)).run P w = .ok (.slice (some ⟨l.b, p, none⟩) (n + m) cap') w' := by
             subst hp;rw [t4] at hf
             simp [appS', Builtin.append_, run_underlying t1, sizeOf, typeInfo, t2, Builtin.lenOf, hfit, t4, hf, Addr.add_lit, s1]
            show UponE _ _ _ _ _ _ _ _ _;rw [run_vS hrun];have hext := ext_alias (c := c) (o' := l.o + off) hd hct htn hl hro;refine ⟨upd ρ c ⟨l.b, l.o + off⟩, rel_alias hr hd hct htn hl hg rfl rfl ⟨cur', _, s2, ?_, ?_⟩, hext, .sl (l := ⟨l.b, l.o + off⟩) (upd_self _) hfit h2 trivial (.inr ⟨by rw [hp]; rfl, cur', _, _, s2, by rw [hcs]; exact q2⟩)⟩
            ·have h7 := n1.length;simp only [List.length_append, List.length_drop];rw [hcs]; omega
            ·have h7 := n1.length
             have e2 : (all.drop off ++ lst).length = n * k + news.length := by
              simp only [List.length_append, List.length_drop]; omega
             rw [e2, s3, Nat.add_zero];have := Sim.take_drop_set (cur := us.toList) (o := l.o + off) (a := n * k) (news := news) rfl (by rw [Array.length_toList]; exact hroom);simp only at this ⊢;rw [this];exact VC.mono hext.sub hext.shape (hold.append n1)
           ·-- no room
            have hk := rel_kill hr (id := id) (by omega);refine grow (hset h id .dead) (all.drop off) _ hk hold hol (fun j u hj => hpo j u (fun hn => ?_) ?_) (by omega) hct
            ·subst hn
             simp at hj
            ·have : ((us.toList.drop (l.o + off)).take (n * k))[j]? = some u := hj;exact cells_get k1 this
         ·trivial
        cases cap with
        | un => exact inPlace
        | ge _ => exact inPlace
        | ex cp' =>
         dsimp only;have hcc : cp' = cap' := h3.symm;subst hcc
         cases hlt : Nat.blt cp' (n + m) with
         | false => rw [cond_false]; exact inPlace
         | true =>
          have hlt := Nat.le_of_ble_eq_true hlt;rw [cond_true];unfold appNew
          cases hsl : slCells h id off (n * k) with
          | none => trivial
          | some old =>
           dsimp only;rw [forceN_eq];unfold new
           cases hct : Nat.blt c top with
           | false => trivial
           | true =>
            rw [cond_true];obtain ⟨olds, o1, o2, o3⟩ := slCells_ok hr hl hsl;refine grow h old olds hr o1 o2 (fun j u hj => hpo j u (fun hn => ?_) (o3 j u hj)) hlt (Nat.le_of_ble_eq_true hct);subst hn;have : olds = [] := List.eq_nil_of_length_eq_zero (by omega);rw [this] at hj; simp at hj
     ·trivial
end
end Go.Ex
namespace Go.Ex
open Go.Sim (tyK fieldK zeroK placesK appK flatK setAt run_isAgg run_loadVar_agg run_loadVar_one run_storeAt run_alloc run_box run_fieldAt fieldK_spec toList_inj appK_spec run_storeCells)
section
variable {P : Program} {w0 : World} {ro c : Nat} {ρ : Rh} {h : H} {w : World}
theorem beq_ba (s s' : ByteArray) : (s == s') = decide (s = s') := by
 cases s with | mk a => cases s' with | mk b =>
 rw [Bool.eq_iff_iff];simp only [ByteArray.mk.injEq, decide_eq_true_eq];show (a == b) = true ↔ _
 simp
theorem run_getObj {r : Nat} {o : Obj} (hb : w.heap[r]? = some o) (hn : ∀ a b c, o ≠ .cells a b c) (hp : ∀ a b, o ≠ .pending a b) (hv : ∀ a b, o ≠ .view a b) (hu : ∀ a b, o ≠ .number a b) : (getObj r).run P w = .ok o w := by
 simp only [getObj, Sem.run, hb]
theorem turn_set {r : Nat} {o o' : Obj} (hb : w.heap[r]? = some o) (hn : ∀ a b c, o ≠ .cells a b c) : Turn w r { w with heap := w.heap.setIfInBounds r o' } where
 size := by simp
 os := rfl
 tape := rfl
 output := rfl
 other := fun x hx => by simp [Array.getElem?_setIfInBounds_ne (Ne.symm hx)]
 shape := fun vs t fr hh => by rw [hb] at hh; cases hh; exact absurd rfl (hn _ _ _)
theorem set_get {r : Nat} {o o' : Obj} (hb : w.heap[r]? = some o) : ({ w with heap := w.heap.setIfInBounds r o' } : World).heap[r]? = some o' := by
 have hlt := (Array.getElem?_eq_some_iff.1 hb).1
 simp [hlt]
theorem g_range (hr : Rel w0 ρ h w) (hd : Dom ρ c) {t : TypeId} {x : V} {u : Value} (hx : VR w ρ x u) : Good P w0 ro c ρ w (vS (Instr.range t u)) (oRange P h c t x) := by
 unfold oRange
 split
 ·rename_i s hu
  have := hx.lit_inv; subst this;exact good_new (u := .pointer (some ⟨w.heap.size, 0, none⟩)) (o := .stringIter s 0) hr hd (by simp [Instr.range, run_underlying hu]) ⟨rfl, heap_alloc_new w _⟩ (.it (l := ⟨w.heap.size, 0⟩) (upd_self _))
 ·rename_i kt et id hu
  split
  ·rename_i es cl bs hg
   cases hx with
   | @mp _ l hl =>
    obtain ⟨b, h1, h2, h3, h4⟩ := hr.blk id l hl
    have : b = .map es cl bs := by rw [hg] at h1; exact (Option.some.inj h1).symm
    subst this;obtain ⟨en, h5, h6, h7⟩ := h3;have hget := run_getObj (P := P) h5 (by simp) (by simp) (by simp) (by simp);exact good_new (u := .pointer (some ⟨w.heap.size, 0, none⟩)) (o := .mapIter (some l.b) cl #[] cl) hr hd (by simp [Instr.range, run_underlying hu, hget]) ⟨rfl, l, new_sub hd _ _ _ hl, heap_alloc_new w _⟩ (.it (l := ⟨w.heap.size, 0⟩) (upd_self _))
  ·trivial
 ·trivial
theorem g_next (hr : Rel w0 ρ h w) (hd : Dom ρ c) (hct : c ≤ 1048576) {i : V} {u : Value} {str : Bool} {ty : TypeId} (hi : VR w ρ i u) : Good P w0 ro c ρ w (vS (Instr.next u str ty)) (oNext h c ro i str) := by
 unfold oNext
 split
 ·rename_i id
  split
  ·rename_i s pos hg
   cases str with
   | false => trivial
   | true =>
    rw [cond_true]
    cases hi with
    | @it _ l hl =>
     obtain ⟨b, h1, h2, h3, h4⟩ := hr.blk id l hl
     have : b = .sit s pos := by rw [hg] at h1; exact (Option.some.inj h1).symm
     subst this;obtain ⟨h5, h6⟩ := h3;have hget := run_getObj (P := P) h6 (by simp) (by simp) (by simp) (by simp);unfold nextS
     cases hp : s.data.toList[pos]? with
     | none =>
      have hge : ¬ (pos < s.size) := by
       intro hlt
       have : pos < s.data.toList.length := by rw [Array.length_toList]; exact hlt
       rw [List.getElem?_eq_getElem this] at hp
       cases hp
      refine good_same (u := .tuple #[.bool false]) hr ?_ (.tup (.cons (.lit _) .nil))
      simp [Instr.next, hget, hge]
     | some bt =>
      dsimp only
      have hlt : pos < s.data.toList.length := by
       rcases Nat.lt_or_ge pos s.data.toList.length with h | h
       ·exact h
       ·rw [List.getElem?_eq_none h] at hp; cases hp
      have hlt' : pos < s.size := by rw [Array.length_toList] at hlt; exact hlt
      cases hc : (Nat.blt bt.toNat 128 && Nat.ble ro id) with
      | false => trivial
      | true =>
       rw [cond_true, forceN_eq, forceN_eq];simp only [Bool.and_eq_true] at hc;have c1 : bt.toNat < 128 := Nat.le_of_ble_eq_true hc.1;have c2 := Nat.le_of_ble_eq_true hc.2
       have hbt : (s.get! pos).toNat = bt.toNat := by
        rw [List.getElem?_eq_getElem hlt] at hp;simp only [Option.some.injEq] at hp;rw [← hp]
        have : s.get! pos = s.data.toList[pos] := by
         simp only [ByteArray.get!];rw [getElem!_pos s.data pos hlt']
         simp
        rw [this]
       have hdec : Utf8.decode s pos = (bt.toNat, 1) := by
        simp only [Utf8.decode, Nat.add_zero, hbt];rw [if_pos c1]
       have htn := turn_set (o' := .stringIter s (pos + 1)) h6 (by simp);have hid := hd id l hl
       have hrun : (Instr.next (.pointer (some ⟨l.b, 0, none⟩)) true ty).run P w = .ok (.tuple #[.bool true, .int .i64 (Int.ofNat pos), .int .i32 (Int.ofNat bt.toNat)]) { w with heap := w.heap.setIfInBounds l.b (.stringIter s (pos + 1)) } := by
        simp only [Instr.next, Sem.run_bind, hget, Result.andThen_ok];rw [if_pos hlt', hdec]
        simp [setObj, Sem.run, h6, goInt]
       show UponE _ _ _ _ _ _ _ _ _;rw [run_vS hrun];exact ⟨ρ, rel_turn hr htn hl hg rfl rfl (by omega) ⟨h5, set_get h6⟩, ext_turn htn hl c2, .tup (.cons (.lit _) (.cons (.lit _) (.cons (.lit _) .nil)))⟩
  ·rename_i mid since seen last hg
   cases str with
   | true => trivial
   | false =>
    rw [cond_false]
    cases hi with
    | @it _ l hl =>
     obtain ⟨b, h1, h2, h3, h4⟩ := hr.blk id l hl
     have : b = .mit mid since seen last := by rw [hg] at h1; exact (Option.some.inj h1).symm
     subst this;obtain ⟨h5, lm, h6, h7⟩ := h3;obtain ⟨b', h1', h2', h3', h4'⟩ := hr.blk mid lm h6;have hget := run_getObj (P := P) h7 (by simp) (by simp) (by simp) (by simp);unfold nextM
     split
     ·rename_i cl bs hgm
      have : b' = .map [] cl bs := by rw [hgm] at h1'; exact (Option.some.inj h1').symm
      subst this;obtain ⟨en, k1, k2, k3⟩ := h3'
      have hen : en = #[] := by
       cases en with | mk L => cases k2 with
       | nil => rfl
      subst hen;have hgetm := run_getObj (P := P) k1 (by simp) (by simp) (by simp) (by simp);refine good_same (u := .tuple #[.bool false]) hr ?_ (.tup (.cons (.lit _) .nil))
      simp [Instr.next, hget, hgetm, Question.forced]
     ·rename_i k v cl bn hgm
      have : b' = .map [(k, v)] cl [bn] := by rw [hgm] at h1'; exact (Option.some.inj h1').symm
      subst this;obtain ⟨en, k1, k2, k3⟩ := h3'
      obtain ⟨e, hen, hek, hev⟩ : ∃ e, en = #[e] ∧ e.key = k ∧ VR w ρ v e.val := by
       cases en with | mk L => cases k2 with
       | cons q1 q2 q3 => cases q3; exact ⟨_, rfl, q1, q2⟩
      subst hen
      have hbn : e.born = bn := by simpa using k3
      have hgetm := run_getObj (P := P) k1 (by simp) (by simp) (by simp) (by simp)
      cases seen with
      | none =>
       dsimp only
       cases hc : (Nat.blt bn since && Nat.ble ro id) with
       | false => trivial
       | true =>
        rw [cond_true];simp only [Bool.and_eq_true] at hc;have c1 : bn < since := Nat.le_of_ble_eq_true hc.1;have c2 := Nat.le_of_ble_eq_true hc.2;have htn := turn_set (o' := .mapIter (some lm.b) since #[e.born] cl) h7 (by simp);have hid := hd id l hl
        have hrun : (Instr.next (.pointer (some ⟨l.b, 0, none⟩)) false ty).run P w = .ok (.tuple #[.bool true, e.key, e.val]) { w with heap := w.heap.setIfInBounds l.b (.mapIter (some lm.b) since #[e.born] cl) } := by
         subst hbn
         have c1' : ¬ since ≤ e.born := by omega
         simp [Instr.next, hget, hgetm, seenA, Question.forced, c1, c1', setObj, Sem.run, h7]
        show UponE _ _ _ _ _ _ _ _ _;rw [run_vS hrun];refine ⟨ρ, rel_turn hr htn hl hg rfl rfl (by omega) ⟨h5, lm, h6, by rw [set_get h7, hbn]; rfl⟩, ext_turn htn hl c2, .tup (.cons (.lit _) (.cons ?_ (.cons (VR.mono (fun _ _ h => h) htn.shapes hev) .nil)))⟩;rw [hek]; exact .lit _
      | some b' =>
       dsimp only
       cases hc : (Nat.beq bn b' && Nat.blt bn last) with
       | false => trivial
       | true =>
        rw [cond_true];simp only [Bool.and_eq_true] at hc;have c1 := Nat.eq_of_beq_eq_true hc.1;have c2 : bn < last := Nat.le_of_ble_eq_true hc.2;subst c1;refine good_same (u := .tuple #[.bool false]) hr ?_ (.tup (.cons (.lit _) .nil));subst hbn
        have c2' : ¬ last ≤ e.born := by omega
        simp [Instr.next, hget, hgetm, seenA, Question.forced, c2, c2']
     ·trivial
  ·trivial
 ·trivial
theorem g_entry (hr : Rel w0 ρ h w) {i : V} {u : Value} (hi : VR w ρ i u) : Good P w0 ro c ρ w (vS (Instr.entry u)) (oEntry h c i) := by
 unfold oEntry
 split
 ·rename_i id
  split
  ·rename_i mid since b' last hg
   cases hi with
   | @it _ l hl =>
    obtain ⟨b, h1, h2, h3, h4⟩ := hr.blk id l hl
    have : b = .mit mid since (some b') last := by rw [hg] at h1; exact (Option.some.inj h1).symm
    subst this;obtain ⟨h5, lm, h6, h7⟩ := h3;obtain ⟨b2, h1', h2', h3', h4'⟩ := hr.blk mid lm h6;have hget := run_getObj (P := P) h7 (by simp) (by simp) (by simp) (by simp)
    split
    ·rename_i k v cl bn hgm
     have : b2 = .map [(k, v)] cl [bn] := by rw [hgm] at h1'; exact (Option.some.inj h1').symm
     subst this;obtain ⟨en, k1, k2, k3⟩ := h3'
     obtain ⟨e, hen, hek, hev⟩ : ∃ e, en = #[e] ∧ e.key = k ∧ VR w ρ v e.val := by
      cases en with | mk L => cases k2 with
      | cons q1 q2 q3 => cases q3; exact ⟨_, rfl, q1, q2⟩
     subst hen
     have hbn : e.born = bn := by simpa using k3
     have hgetm := run_getObj (P := P) k1 (by simp) (by simp) (by simp) (by simp)
     cases hc : (Nat.beq bn b' && Nat.beq cl last) with
     | false => trivial
     | true =>
      rw [cond_true];simp only [Bool.and_eq_true] at hc;have c1 := Nat.eq_of_beq_eq_true hc.1;have c2 := Nat.eq_of_beq_eq_true hc.2;subst c1; subst c2; subst hbn; subst hek;refine good_same (u := .tuple #[e.key, e.val]) hr ?_ (.tup (.cons (.lit _) (.cons hev .nil)))
      simp [Instr.entry, hget, hgetm, seenA]
    ·trivial
  ·trivial
 ·trivial
theorem g_makeMap (hr : Rel w0 ρ h w) (hd : Dom ρ c) {t : TypeId} {r : Option Operand} {e : Operand → Value} : Good P w0 ro c ρ w (vS (Instr.makeMap t (r.map e))) (oMakeMap P h c t r) := by
 unfold oMakeMap
 split
 ·exact good_new (u := .map (some w.heap.size)) (o := .map #[] 0) hr hd (by simp [Instr.makeMap]) ⟨#[], heap_alloc_new w _, .nil, rfl⟩ (.mp (l := ⟨w.heap.size, 0⟩) (upd_self _))
 ·trivial
theorem mapTy_ok {t k e : TypeId} (h : mapTy P t = some (k, e)) : P.underlying t = some (.map k e) := by
 unfold mapTy at h
 split at h
 ·rename_i h1; simp only [Option.some.injEq, Prod.mk.injEq] at h; obtain ⟨rfl, rfl⟩ := h; exact h1
 ·cases h
theorem keyOk_cases {kt : TypeId} {k : Value} (h : keyOk P kt k = true) : (∃ kd n, k = .int kd n ∧ P.underlying kt = some (.int kd)) ∨ (∃ s, k = .string s ∧ P.underlying kt = some .string) := by
 unfold keyOk at h
 split at h
 ·rename_i k' k2 n hu
  have := of_decide_eq_true h;subst this;exact .inl ⟨_, n, rfl, hu⟩
 ·rename_i s hu; exact .inr ⟨s, rfl, hu⟩
 ·cases h
theorem run_checkKeyN {kt : TypeId} {k : Value} (h : keyOk P kt k = true) (b : Bool) (n : Nat) : (Instr.checkKey b (n + 1) kt k).run P w = .ok () w := by
 rcases keyOk_cases h with ⟨kd, m, rfl, hu⟩ | ⟨s, rfl, hu⟩ <;> simp [Instr.checkKey, run_underlying hu]
theorem run_checkKey {kt : TypeId} {k : Value} (h : keyOk P kt k = true) (b : Bool) : (Instr.checkKey b 10000 kt k).run P w = .ok () w := run_checkKeyN h b 9999
theorem sameNow_ok {kt : TypeId} {d : TypeDesc} {k k' : Value} {b : Bool} (h : keyOk P kt k = true) (hu : P.underlying kt = some d) (hk : keyEq k k' = some b) : Instr.sameNow d k k' = some b := by
 rcases keyOk_cases h with ⟨kd, n, rfl, hu'⟩ | ⟨s, rfl, hu'⟩
 ·rw [hu'] at hu; cases hu
  cases k' <;> simp only [keyEq] at hk <;> try (cases hk; done)
  rename_i kd' n'
  by_cases he : kd = kd'
  ·subst he;rw [decide_eq_true rfl, cond_true] at hk;simp only [Option.some.injEq] at hk;simp only [Instr.sameNow, if_true, Option.some.injEq, ← hk];rw [Bool.eq_iff_iff]; simp
  ·rw [decide_eq_false he] at hk; cases hk
 ·rw [hu'] at hu; cases hu
  cases k' <;> simp only [keyEq] at hk <;> try (cases hk; done)
  rename_i s'
  simp only [Option.some.injEq] at hk;simp only [Instr.sameNow, Option.some.injEq, ← hk, eqU_eq, beq_ba];rw [Bool.eq_iff_iff];simp only [decide_eq_true_eq]
  constructor
  ·rintro rfl; rfl
  ·intro e
   cases s; cases s'
   rw [ByteArray.mk.injEq];exact Array.toList_inj.1 e
theorem findE_ok {kt : TypeId} {d : TypeDesc} {k : Value} (h : keyOk P kt k = true) (hu : P.underlying kt = some d) : ∀ {es : List (Value × V)} {entries : List MapEntry} {r : Option V} (i : Nat), ER w ρ es entries → findE k es = some r →
  (r = none ∧ Instr.findNow d k entries i = some none ∧ ∀ x, putE k x es = es ++ [(k, x)]) ∨ ∃ v j u, r = some v ∧ Instr.findNow d k entries i = some (some (i + j, u)) ∧ VR w ρ v u ∧ ∃ e, entries[j]? = some e ∧ e.val = u ∧ keyEq k e.key = some true ∧ ∀ x ux, VR w ρ x ux → ER w ρ (putE k x es) (entries.modify j fun e => { e with key := k, val := ux })
 | _, _, r, i, .nil, hf => by
  simp only [findE, Option.some.injEq] at hf;subst hf;exact .inl ⟨rfl, rfl, fun _ => rfl⟩
 | _, _, r, i, .cons (k := k') (v := v) (e := e) hk hv htl, hf => by
  simp only [findE] at hf
  cases hq : keyEq k k' with
  | none => rw [hq] at hf; cases hf
  | some b =>
   have hs := sameNow_ok h hu (by rw [← hk] at hq; exact hq);rw [hq] at hf
   cases b with
   | true =>
    simp only [Option.some.injEq] at hf;subst hf;refine .inr ⟨v, 0, e.val, rfl, by simp [Instr.findNow, hs], hv, e, rfl, rfl, by rw [hk]; exact hq, fun x ux hx => by simp only [putE, hq, List.modify_zero_cons]; exact .cons rfl hx htl⟩
   | false =>
    rcases findE_ok h hu (i + 1) htl hf with ⟨g1, g2, g3⟩ | ⟨v', j, u, g1, g2, g3, e', g4, g5, g6, g7⟩
    ·exact .inl ⟨g1, by simp [Instr.findNow, hs, g2], fun x => by simp only [putE, hq, g3, List.cons_append]⟩
    ·refine .inr ⟨v', j + 1, u, g1, by simp only [Instr.findNow, hs, g2]; congr 3; omega, g3, e', by simpa using g4, g5, g6, fun x ux hx => by simp only [putE, hq, List.modify_succ_cons]; exact .cons hk hv (g7 x ux hx)⟩
end
end Go.Ex
namespace Go.Ex
open Go.Sim (tyK fieldK zeroK placesK appK flatK setAt run_isAgg run_loadVar_agg run_loadVar_one run_storeAt run_alloc run_box run_fieldAt fieldK_spec toList_inj appK_spec run_storeCells)
section
variable {P : Program} {w0 : World} {ro c : Nat} {ρ : Rh} {h : H} {w : World}
theorem ofZero_ok {e : TypeId} {v : V} (h : ofZero P e = some v) : ∃ u, (zeroValue e).run P w = .ok u w ∧ VR w ρ v u := by
 unfold ofZero at h
 split at h
 ·rename_i i hi
  split at h
  ·rename_i cs hz
   cases hc : cs.toList.all Value.oneCell' with
   | false => rw [hc] at h; cases h
   | true =>
    rw [hc, cond_true] at h;simp only [Option.some.injEq] at h;subst h;refine ⟨.agg cs, run_zeroValue hi hz, ?_⟩;have := VR.agg (VC.lits (w := w) (ρ := ρ) (List.all_eq_true.1 hc))
    simpa using this
  ·rename_i z _ hz
   cases hc : z.oneCell' with
   | false => rw [hc] at h; cases h
   | true =>
    rw [hc, cond_true] at h;simp only [Option.some.injEq] at h;subst h;exact ⟨z, run_zeroValue hi hz, .lit z⟩
  ·cases h
 ·cases h
theorem keyTy {kt : TypeId} {k : Value} (h : keyOk P kt k = true) : ∃ d, P.underlying kt = some d := by
 rcases keyOk_cases h with ⟨_, _, _, hu⟩ | ⟨_, _, hu⟩ <;> exact ⟨_, hu⟩
theorem eqS1_eq {a b : Value} (h : eqS1 a b = true) : a = b := by
 unfold eqS1 at h
 split at h
 ·rw [Bool.and_eq_true] at h;have h1 := of_decide_eq_true h.1;have h2 := h.2;rw [eqI_eq, decide_eq_true_eq] at h2;rw [h1, h2]
 ·rename_i s s'
  have : s = s' := by
   cases s; cases s'
   rw [ByteArray.mk.injEq];rw [eqU_eq, decide_eq_true_eq] at h;exact Array.toList_inj.1 h
  rw [this]
 ·rw [eq_of_beq h]
 ·cases h
theorem eqSL_eq : ∀ {a b : List Value}, eqSL a b = true → a = b
 | [], [], _ => rfl
 | x :: a, y :: b, h => by
  simp only [eqSL, Bool.and_eq_true] at h;rw [eqS1_eq h.1, eqSL_eq h.2]
 | [], _ :: _, h => by cases h
 | _ :: _, [], h => by cases h
theorem eqS_eq {a b : Value} (h : eqS a b = true) : a = b := by
 unfold eqS at h
 split at h
 ·rw [Array.toList_inj.1 (eqSL_eq h)]
 ·cases h
theorem litsV_inv {w : World} {ρ : Rh} : ∀ {l : List V} {us vs : List Value}, VC w ρ l us → litsV l = some vs → us = vs
 | [], _, _, h, e => by cases h; cases e; rfl
 | x :: l, _, _, h, e => by
  cases h with
  | cons h1 h2 h3 =>
   unfold litsV at e
   split at e
   ·rename_i hq; cases hq
   ·rename_i v l' hq
    cases hq
    split at e
    ·rename_i vs he
     cases e
     rw [h1.lit_inv, litsV_inv h3 he]
    ·cases e
   ·cases e
theorem litV_inv {w : World} {ρ : Rh} {k : V} {u v : Value} (h : VR w ρ k u) (e : litV k = some v) : v = u := by
 unfold litV at e
 split at e
 ·cases e; exact h.lit_inv.symm
 ·split at e
  ·rename_i l vs he
   cases e
   cases h with
   | agg h => rw [litsV_inv h he]
  ·cases e
 ·cases e
theorem keyS_ok {kt : TypeId} {k : Value} {es : List (Value × V)} (h : keyS P kt k es = true) : WideMaps.KeyLaw P kt ∧ ∃ lk, keyOf P kt k = some lk ∧ (∀ e ∈ es, ∃ l, keyOf P kt e.1 = some l) ∧ eqS k k = true := by
 unfold keyS at h;simp only [Bool.and_eq_true] at h;obtain ⟨h1, h2, h3, h4, h5, h6⟩ := h;obtain ⟨lk, hl⟩ := Option.isSome_iff_exists.1 h5;exact ⟨deep_law (m := 3) (by decide) h2 h3 h1, lk, hl, fun e he => Option.isSome_iff_exists.1 (List.all_eq_true.1 h6 e he), h4⟩
theorem findS_none {k : Value} (hk : eqS k k = true) : ∀ {es : List (Value × V)}, findS k es = some none → (∀ p ∈ es, p.1 ≠ k) ∧ ∀ x, putS k x es = es ++ [(k, x)]
 | [], _ => ⟨fun _ h => (by cases h), fun _ => rfl⟩
 | (k', v) :: es, h => by
  unfold findS at h
  cases hq : eqS k' k with
  | true => rw [hq] at h; dsimp only at h; split at h <;> cases h
  | false =>
   rw [hq] at h;obtain ⟨g1, g2⟩ := findS_none hk (es := es) h;refine ⟨fun p hp e => ?_, fun x => by unfold putS; rw [hq]; simp only [g2, List.cons_append]⟩
   rcases List.mem_cons.1 hp with rfl | hp
   ·simp only at e; rw [e, hk] at hq; cases hq
   ·exact g1 p hp e
theorem findS_some {k : Value} (hk : eqS k k = true) : ∀ {es : List (Value × V)} {v : V}, findS k es = some (some v) → ∃ j, es[j]? = some (k, v) ∧ (∀ j' p, es[j']? = some p → p.1 = k → j' = j) ∧ ∀ x, putS k x es = es.set j (k, x)
 | [], _, h => by cases h
 | (k', v) :: es, u, h => by
  unfold findS at h
  cases hq : eqS k' k with
  | true =>
   have hkk : k' = k := eqS_eq hq;subst hkk;rw [hq] at h;dsimp only at h
   split at h
   ·rename_i hf
    cases h
    obtain ⟨g1, _⟩ := findS_none hk hf;refine ⟨0, rfl, fun j' p hj hp => ?_, fun x => by unfold putS; rw [hq]; rfl⟩
    cases j' with
    | zero => rfl
    | succ j' => exact absurd hp (g1 p (List.mem_of_getElem? (by simpa using hj)))
   ·cases h
  | false =>
   rw [hq] at h;obtain ⟨j, g1, g2, g3⟩ := findS_some hk (es := es) h;refine ⟨j + 1, by simpa using g1, fun j' p hj hp => ?_, fun x => by unfold putS; rw [hq]; simp [g3]⟩
   cases j' with
   | zero =>
    simp only [List.getElem?_cons_zero, Option.some.injEq] at hj;subst hj;simp only at hp;rw [hp, hk] at hq; cases hq
   | succ j' => rw [g2 j' p (by simpa using hj) hp]
theorem ER.at {w : World} {ρ : Rh} : ∀ {es : List (Value × V)} {en : List MapEntry}, ER w ρ es en → ∀ {j : Nat} {k : Value} {v : V}, es[j]? = some (k, v) → ∃ e, en[j]? = some e ∧ e.key = k ∧ VR w ρ v e.val
 | _, _, .nil, j, _, _, h => by simp at h
 | _, _, .cons (e := e) h1 h2 h3, 0, _, _, h => by simp at h; obtain ⟨rfl, rfl⟩ := h; exact ⟨e, rfl, h1, h2⟩
 | _, _, .cons h1 h2 h3, j + 1, _, _, h => by obtain ⟨e, g⟩ := ER.at h3 (j := j) (by simpa using h); exact ⟨e, by simpa using g⟩
theorem ER.at' {w : World} {ρ : Rh} : ∀ {es : List (Value × V)} {en : List MapEntry}, ER w ρ es en → ∀ {j : Nat} {e : MapEntry}, en[j]? = some e → ∃ v, es[j]? = some (e.key, v)
 | _, _, .nil, j, _, h => by simp at h
 | _, _, .cons (v := v) h1 h2 h3, 0, _, h => by simp at h; subst h; exact ⟨v, by simp [h1]⟩
 | _, _, .cons h1 h2 h3, j + 1, _, h => by obtain ⟨e, g⟩ := ER.at' h3 (j := j) (by simpa using h); exact ⟨e, by simpa using g⟩
theorem ER.set {w : World} {ρ : Rh} {k : Value} {x : V} {ux : Value} (hx : VR w ρ x ux) : ∀ {es : List (Value × V)} {en : List MapEntry}, ER w ρ es en → ∀ (j : Nat), ER w ρ (es.set j (k, x)) (en.modify j fun e => { e with key := k, val := ux })
 | _, _, .nil, j => by simp; exact .nil
 | _, _, .cons h1 h2 h3, 0 => by simp only [List.set_cons_zero, List.modify_zero_cons]; exact .cons rfl hx h3
 | _, _, .cons h1 h2 h3, j + 1 => by simp only [List.set_cons_succ, List.modify_succ_cons]; exact .cons h1 h2 (ER.set hx h3 j)
theorem findS_ok {kt : TypeId} {k : Value} {lk : Lit} (K : WideMaps.KeyLaw P kt) (hlk : keyOf P kt k = some lk) (hself : eqS k k = true) {es : List (Value × V)} (hall : ∀ e ∈ es, ∃ l, keyOf P kt e.1 = some l) {entries : List MapEntry} {r : Option V} (hE : ER w ρ es entries) (hf : findS k es = some r) :
  (r = none ∧ (Instr.findKey kt k entries).run P w = .ok none w ∧ ∀ x, putS k x es = es ++ [(k, x)]) ∨ ∃ v j u, r = some v ∧ (Instr.findKey kt k entries).run P w = .ok (some (j, u)) w ∧ VR w ρ v u ∧ ∃ e, entries[j]? = some e ∧ e.val = u ∧ e.key = k ∧ ∀ x ux, VR w ρ x ux → ER w ρ (putS k x es) (entries.modify j fun e => { e with key := k, val := ux }) := by
 have hkeys : ∀ e ∈ entries, ∃ l, keyOf P kt e.key = some l := fun e he => by
  obtain ⟨j, hj⟩ := List.mem_iff_getElem?.1 he;obtain ⟨v, hv⟩ := hE.at' hj;exact hall _ (List.mem_of_getElem? hv)
 rcases K.find w hlk entries hkeys with ⟨f1, f2⟩ | ⟨j, e, f1, f2, f3⟩
 ·cases r with
  | none => exact .inl ⟨rfl, f1, (findS_none hself hf).2⟩
  | some v =>
   obtain ⟨j, g1, _, _⟩ := findS_some hself hf;obtain ⟨e, q1, q2, _⟩ := hE.at g1;exact absurd q2 (f2 e (List.mem_of_getElem? q1))
 ·obtain ⟨v0, hv0⟩ := hE.at' f2
  cases r with
  | none => exact absurd f3 ((findS_none hself hf).1 _ (List.mem_of_getElem? hv0))
  | some v =>
   obtain ⟨j', g1, g2, g3⟩ := findS_some hself hf;have hj := g2 j _ hv0 f3;subst hj;obtain ⟨e', q1, q2, q3⟩ := hE.at g1;rw [f2] at q1
   cases q1
   exact .inr ⟨v, j, e.val, rfl, f1, q3, e, f2, rfl, f3, fun x ux hx => by rw [g3]; exact hE.set hx j⟩
theorem g_lookup (hr : Rel w0 ρ h w) {t : TypeId} {m k : V} {um uk : Value} {ok : Bool} (hm : VR w ρ m um) (hk : VR w ρ k uk) : Good P w0 ro c ρ w (vS (Instr.lookup t um uk ok)) (oLookup P h c t m k ok) := by
 unfold oLookup
 split
 ·rename_i kt e id kv hmt hlk
  have hu := mapTy_ok hmt;have := (litV_inv hk hlk).symm; subst this
  cases hm with
  | @mp _ l hl =>
   split
   ·rename_i es cl_ bs_ z hg hz
    cases hko : keyOk P kt uk with
    | false =>
     rw [cond_false]
     cases hks : keyS P kt uk es with
     | false => trivial
     | true =>
      rw [cond_true];obtain ⟨K, lk, hlk, hall, hself⟩ := keyS_ok hks;obtain ⟨b, h1, h2, h3, h4⟩ := hr.blk id l hl
      have : b = .map es cl_ bs_ := by rw [hg] at h1; exact (Option.some.inj h1).symm
      subst this;obtain ⟨entries, h5, h6, h7⟩ := h3;have hget := run_getObj (P := P) h5 (by simp) (by simp) (by simp) (by simp);obtain ⟨uz, hz1, hz2⟩ := ofZero_ok (P := P) (w := w) (ρ := ρ) hz;have hck := K.check w entries.isEmpty hlk;unfold found
      split
      ·rename_i v hf
       rcases findS_ok K hlk hself hall h6 hf with ⟨g1, _⟩ | ⟨v', j, u, g1, g2, g3, _⟩
       ·cases g1
       ·simp only [Option.some.injEq] at g1;subst g1
        cases ok with
        | true =>
         refine good_same (u := .tuple #[u, .bool true]) hr ?_ (.tup (.cons g3 (.cons (.lit _) .nil)))
         simp [Instr.lookup, run_underlying hu, hget, hck, g2]
        | false =>
         refine good_same (u := u) hr ?_ g3
         simp [Instr.lookup, run_underlying hu, hget, hck, g2]
      ·rename_i hf
       rcases findS_ok K hlk hself hall h6 hf with ⟨_, g2, _⟩ | ⟨_, _, _, g1, _⟩
       ·cases ok with
        | true =>
         refine good_same (u := .tuple #[uz, .bool false]) hr ?_ (.tup (.cons hz2 (.cons (.lit _) .nil)))
         simp [Instr.lookup, run_underlying hu, hget, hck, g2, hz1]
        | false =>
         refine good_same (u := uz) hr ?_ hz2
         simp [Instr.lookup, run_underlying hu, hget, hck, g2, hz1]
       ·cases g1
      ·trivial
    | true =>
     rw [cond_true];obtain ⟨b, h1, h2, h3, h4⟩ := hr.blk id l hl
     have : b = .map es cl_ bs_ := by rw [hg] at h1; exact (Option.some.inj h1).symm
     subst this;obtain ⟨entries, h5, h6, h7⟩ := h3;have hget := run_getObj (P := P) h5 (by simp) (by simp) (by simp) (by simp);obtain ⟨d, hd⟩ := keyTy hko;obtain ⟨uz, hz1, hz2⟩ := ofZero_ok (P := P) (w := w) (ρ := ρ) hz;unfold found
     split
     ·rename_i v hf
      rcases findE_ok hko hd 0 h6 hf with ⟨g1, _⟩ | ⟨v', j, u, g1, g2, g3, _⟩
      ·cases g1
      ·simp only [Option.some.injEq] at g1;subst g1
       cases ok with
       | true =>
        refine good_same (u := .tuple #[u, .bool true]) hr ?_ (.tup (.cons g3 (.cons (.lit _) .nil)))
        simp [Instr.lookup, run_underlying hu, hget, run_checkKey hko, Instr.findKey, run_underlying hd, g2]
       | false =>
        refine good_same (u := u) hr ?_ g3
        simp [Instr.lookup, run_underlying hu, hget, run_checkKey hko, Instr.findKey, run_underlying hd, g2]
     ·rename_i hf
      rcases findE_ok hko hd 0 h6 hf with ⟨_, g2, _⟩ | ⟨_, _, _, g1, _⟩
      ·cases ok with
       | true =>
        refine good_same (u := .tuple #[uz, .bool false]) hr ?_ (.tup (.cons hz2 (.cons (.lit _) .nil)))
        simp [Instr.lookup, run_underlying hu, hget, run_checkKey hko, Instr.findKey, run_underlying hd, g2, hz1]
       | false =>
        refine good_same (u := uz) hr ?_ hz2
        simp [Instr.lookup, run_underlying hu, hget, run_checkKey hko, Instr.findKey, run_underlying hd, g2, hz1]
      ·cases g1
     ·trivial
   ·trivial
 ·trivial
theorem same_bits {kt : TypeId} {k k' : Value} (h : keyOk P kt k = true) (hk : keyEq k k' = some true) (n : Nat) : Instr.sameBits n k' k = true := by
 rcases keyOk_cases h with ⟨kd, m, rfl, hu'⟩ | ⟨s, rfl, hu'⟩
 ·cases k' <;> simp only [keyEq] at hk <;> try (cases hk; done)
  rename_i kd' n'
  by_cases he : kd = kd'
  ·subst he;rw [decide_eq_true rfl, cond_true] at hk;simp only [Option.some.injEq, decide_eq_true_eq] at hk;subst hk
   cases n <;> simp [Instr.sameBits]
  ·rw [decide_eq_false he] at hk; cases hk
 ·cases k' <;> simp only [keyEq] at hk <;> try (cases hk; done)
  rename_i s'
  simp only [Option.some.injEq, eqU_eq, decide_eq_true_eq] at hk
  have : s = s' := by
   cases s; cases s'
   rw [ByteArray.mk.injEq];exact Array.toList_inj.1 hk
  subst this
  cases n <;> simp [Instr.sameBits, beq_ba]
theorem born_modify (en : Array MapEntry) (j : Nat) (k v : Value) : (en.modify j fun e => { e with key := k, val := v }).toList.map (·.born) = en.toList.map (·.born) := by
 apply List.ext_getElem?
 intro i;simp only [Array.toList_modify, List.getElem?_map, List.getElem?_modify]
 cases en.toList[i]? with
 | none => rfl
 | some e => by_cases h : j = i <;> simp [h]
theorem g_mapUpdate (hr : Rel w0 ρ h w) (hd : Dom ρ c) (hct : c ≤ 1048576) {t : TypeId} {m k v : V} {um uk uv : Value} (hm : VR w ρ m um) (hk : VR w ρ k uk) (hv : VR w ρ v uv) : Good P w0 ro c ρ w (uS (Instr.mapUpdate t um uk uv)) (oMapUpdate P h c ro t m k v) := by
 unfold oMapUpdate
 split
 ·rename_i kt e id kv hmt hlk
  have hu := mapTy_ok hmt;have := (litV_inv hk hlk).symm; subst this
  cases hm with
  | @mp _ l hl =>
   split
   ·rename_i es clock bs hg
    cases hcnd : (keyOk P kt uk && Nat.ble ro id) with
    | false =>
     rw [cond_false]
     cases hcn2 : (keyS P kt uk es && Nat.ble ro id) with
     | false => trivial
     | true =>
      rw [cond_true];simp only [Bool.and_eq_true] at hcn2;obtain ⟨hks, hro⟩ := hcn2;have hro := Nat.le_of_ble_eq_true hro;obtain ⟨K, lk, hlk, hall, hself⟩ := keyS_ok hks;obtain ⟨b, h1, h2, h3, h4⟩ := hr.blk id l hl
      have : b = .map es clock bs := by rw [hg] at h1; exact (Option.some.inj h1).symm
      subst this;obtain ⟨entries, h5, h6, h7⟩ := h3;have hget := run_getObj (P := P) h5 (by simp) (by simp) (by simp) (by simp);have hid := hd id l hl;have hck := K.check w false hlk
      cases hf : findS uk es with
      | none => trivial
      | some r =>
       rcases findS_ok K hlk hself hall h6 hf with ⟨g1, g2, g3⟩ | ⟨v', j, u, g1, g2, g3, e', g4, g5, g6, g7⟩
       ·subst g1;dsimp only;show UponE _ _ _ _ _ _ _ _ _;have htn := turn_set (o' := .map (entries.push { key := uk, val := uv, born := clock }) (clock + 1)) h5 (by simp)
        have hrun : (Instr.mapUpdate t (.map (some l.b)) uk uv).run P w = .ok () { w with heap := w.heap.setIfInBounds l.b (.map (entries.push { key := uk, val := uv, born := clock }) (clock + 1)) } := by
         simp only [Instr.mapUpdate, Sem.run_bind, run_underlying hu, Result.andThen_ok, hget, hck, g2, Sem.run_pure]
         simp [setObj, Sem.run, h5]
        rw [run_uS hrun];refine ⟨ρ, rel_turn hr htn hl hg rfl rfl (by omega) ⟨_, set_get h5, ?_, by simp [h7]⟩, ext_turn htn hl hro, .lit undef⟩;rw [g3];have h6' := ER.mono (fun _ _ h => h) htn.shapes h6
        have happ : ∀ {a : List (Value × V)} {x : List MapEntry} {b : List (Value × V)} {y : List MapEntry} {w : World}, ER w ρ a x → ER w ρ b y → ER w ρ (a ++ b) (x ++ y) := by
         intro a x b y w ha hb
         induction ha with
         | nil => exact hb
         | cons p q r ih => exact .cons p q ih
        have := happ h6' (.cons (k := uk) (v := v) (e := { key := uk, val := uv, born := clock }) rfl (VR.mono (fun _ _ h => h) htn.shapes hv) .nil)
        simpa using this
       ·subst g1;dsimp only;show UponE _ _ _ _ _ _ _ _ _;have htn := turn_set (o' := .map (entries.modify j fun e => { e with key := uk, val := uv }) clock) h5 (by simp)
        have hks : (Instr.keyThatStays (((entries[j]?).map (·.key)).getD uk) uk).run P w = .ok uk w := by
         have : entries[j]? = some e' := by simpa using g4
         rw [this];simp only [Option.map_some, Option.getD_some];rw [g6];exact K.stays w hlk
        have hrun : (Instr.mapUpdate t (.map (some l.b)) uk uv).run P w = .ok () { w with heap := w.heap.setIfInBounds l.b (.map (entries.modify j fun e => { e with key := uk, val := uv }) clock) } := by
         simp only [Instr.mapUpdate, Sem.run_bind, run_underlying hu, Result.andThen_ok, hget, hck, g2, Sem.run_pure, hks]
         simp [setObj, Sem.run, h5]
        rw [run_uS hrun];refine ⟨ρ, rel_turn hr htn hl hg rfl rfl (by omega) ⟨_, set_get h5, ?_, by rw [← h7]; exact born_modify _ _ _ _⟩, ext_turn htn hl hro, .lit undef⟩;have := ER.mono (fun _ _ h => h) htn.shapes (g7 v uv hv)
        simpa using this
    | true =>
     rw [cond_true];simp only [Bool.and_eq_true] at hcnd;obtain ⟨hko, hro⟩ := hcnd;have hro := Nat.le_of_ble_eq_true hro;obtain ⟨b, h1, h2, h3, h4⟩ := hr.blk id l hl
     have : b = .map es clock bs := by rw [hg] at h1; exact (Option.some.inj h1).symm
     subst this;obtain ⟨entries, h5, h6, h7⟩ := h3;have hget := run_getObj (P := P) h5 (by simp) (by simp) (by simp) (by simp);obtain ⟨d, hdd⟩ := keyTy hko;have hid := hd id l hl
     cases hf : findE uk es with
     | none => trivial
     | some r =>
      rcases findE_ok hko hdd 0 h6 hf with ⟨g1, g2, g3⟩ | ⟨v', j, u, g1, g2, g3, e', g4, g5, g6, g7⟩
      ·subst g1;dsimp only;show UponE _ _ _ _ _ _ _ _ _;have htn := turn_set (o' := .map (entries.push { key := uk, val := uv, born := clock }) (clock + 1)) h5 (by simp)
       have hrun : (Instr.mapUpdate t (.map (some l.b)) uk uv).run P w = .ok () { w with heap := w.heap.setIfInBounds l.b (.map (entries.push { key := uk, val := uv, born := clock }) (clock + 1)) } := by
        simp only [Instr.mapUpdate, Sem.run_bind, run_underlying hu, Result.andThen_ok, hget, run_checkKey hko, Instr.findKey, run_underlying hdd, g2, Sem.run_pure]
        simp [setObj, Sem.run, h5]
       rw [run_uS hrun];refine ⟨ρ, rel_turn hr htn hl hg rfl rfl (by omega) ⟨_, set_get h5, ?_, by simp [h7]⟩, ext_turn htn hl hro, .lit undef⟩;rw [g3];have h6' := ER.mono (fun _ _ h => h) htn.shapes h6
       have happ : ∀ {a : List (Value × V)} {x : List MapEntry} {b : List (Value × V)} {y : List MapEntry} {w : World}, ER w ρ a x → ER w ρ b y → ER w ρ (a ++ b) (x ++ y) := by
        intro a x b y w ha hb
        induction ha with
        | nil => exact hb
        | cons p q r ih => exact .cons p q ih
       have := happ h6' (.cons (k := uk) (v := v) (e := { key := uk, val := uv, born := clock }) rfl (VR.mono (fun _ _ h => h) htn.shapes hv) .nil)
       simpa using this
      ·subst g1;dsimp only;show UponE _ _ _ _ _ _ _ _ _;have htn := turn_set (o' := .map (entries.modify (0 + j) fun e => { e with key := uk, val := uv }) clock) h5 (by simp)
       have hks : (Instr.keyThatStays (((entries[0 + j]?).map (·.key)).getD uk) uk).run P w = .ok uk w := by
        have : entries[0 + j]? = some e' := by rw [Nat.zero_add]; simpa using g4
        rw [this];have hsb := same_bits hko g6 10000;simp only [Option.map_some, Option.getD_some, Instr.keyThatStays, hsb, if_true, Sem.run_pure]
       have hrun : (Instr.mapUpdate t (.map (some l.b)) uk uv).run P w = .ok () { w with heap := w.heap.setIfInBounds l.b (.map (entries.modify (0 + j) fun e => { e with key := uk, val := uv }) clock) } := by
        simp only [Instr.mapUpdate, Sem.run_bind, run_underlying hu, Result.andThen_ok, hget, run_checkKey hko, Instr.findKey, run_underlying hdd, g2, Sem.run_pure, hks]
        simp [setObj, Sem.run, h5]
       rw [run_uS hrun];refine ⟨ρ, rel_turn hr htn hl hg rfl rfl (by omega) ⟨_, set_get h5, ?_, by rw [← h7]; exact born_modify _ _ _ _⟩, ext_turn htn hl hro, .lit undef⟩;have := ER.mono (fun _ _ h => h) htn.shapes (g7 v uv hv)
       simpa using this
   ·trivial
 ·trivial
theorem posS_ok {k : Value} (hk : eqS k k = true) : ∀ {es : List (Value × V)} {v : V}, findS k es = some (some v) → es[posS k es]? = some (k, v)
 | [], _, h => by cases h
 | (k', v) :: es, u, h => by
  unfold findS at h;unfold posS
  cases hq : eqS k' k with
  | true =>
   have hkk : k' = k := eqS_eq hq;subst hkk;rw [hq] at h;dsimp only at h ⊢
   split at h
   ·cases h; rfl
   ·cases h
  | false =>
   rw [hq] at h;dsimp only at h ⊢;rw [List.getElem?_cons_succ];exact posS_ok hk h
theorem bornAt_ok {b : Nat} : ∀ {bs : List Nat} {i : Nat}, bornAt b bs = some i → bs[i]? = some b ∧ ∀ j, j < i → ∀ x, bs[j]? = some x → x ≠ b
 | [], _, h => by cases h
 | x :: l, i, h => by
  unfold bornAt at h
  cases hq : Nat.beq x b with
  | true =>
   rw [hq] at h
   cases h
   exact ⟨by rw [Nat.eq_of_beq_eq_true hq]; rfl, fun j hj => by omega⟩
  | false =>
   rw [hq] at h;dsimp only at h
   split at h
   ·rename_i i' hi
    cases h
    obtain ⟨g1, g2⟩ := bornAt_ok hi;refine ⟨by simpa using g1, fun j hj y hy => ?_⟩
    cases j with
    | zero =>
     simp only [List.getElem?_cons_zero, Option.some.injEq] at hy;subst hy;intro e;rw [e] at hq;rw [show Nat.beq b b = true from Nat.beq_refl b] at hq
     cases hq
    | succ j => exact g2 j (by omega) y (by simpa using hy)
   ·cases h
theorem ER.setVal {w : World} {ρ : Rh} {x : V} {ux : Value} (hx : VR w ρ x ux) : ∀ {es : List (Value × V)} {en : List MapEntry}, ER w ρ es en → ∀ (i : Nat), ER w ρ (setVal x es i) (en.modify i fun e => { e with val := ux })
 | _, _, .nil, i => by simp [Ex.setVal]; exact .nil
 | _, _, .cons h1 h2 h3, 0 => by simp only [Ex.setVal, List.modify_zero_cons]; exact .cons h1 hx h3
 | _, _, .cons h1 h2 h3, i + 1 => by simp only [Ex.setVal, List.modify_succ_cons]; exact .cons h1 h2 (ER.setVal hx h3 i)
theorem born_modifyV (en : Array MapEntry) (j : Nat) (v : Value) : (en.modify j fun e => { e with val := v }).toList.map (·.born) = en.toList.map (·.born) := by
 apply List.ext_getElem?
 intro i;simp only [Array.toList_modify, List.getElem?_map, List.getElem?_modify]
 cases en.toList[i]? with
 | none => rfl
 | some e => by_cases h : j = i <;> simp [h]
theorem g_mapEntry (hr : Rel w0 ρ h w) (hd : Dom ρ c) (hct : c ≤ 1048576) {t : TypeId} {m k : V} {um uk : Value} (hm : VR w ρ m um) (hk : VR w ρ k uk) : Good P w0 ro c ρ w (vS (Instr.mapEntry t um uk)) (oMapEntry P h c ro t m k) := by
 unfold oMapEntry
 split
 ·rename_i kt e id kv hmt hlk
  have hu := mapTy_ok hmt;have := (litV_inv hk hlk).symm; subst this
  cases hm with
  | @mp _ l hl =>
   split
   ·rename_i es clock bs z hg hz
    cases hcn2 : (keyS P kt uk es && Nat.ble ro id) with
    | false => trivial
    | true =>
     rw [cond_true];simp only [Bool.and_eq_true] at hcn2;obtain ⟨hks, hro⟩ := hcn2;have hro := Nat.le_of_ble_eq_true hro;obtain ⟨K, lk, hlk, hall, hself⟩ := keyS_ok hks;obtain ⟨b, h1, h2, h3, h4⟩ := hr.blk id l hl
     have : b = .map es clock bs := by rw [hg] at h1; exact (Option.some.inj h1).symm
     subst this;obtain ⟨entries, h5, h6, h7⟩ := h3;have hget := run_getObj (P := P) h5 (by simp) (by simp) (by simp) (by simp);have hid := hd id l hl;have hck := K.check w false hlk;obtain ⟨uz, hz1, hz2⟩ := ofZero_ok (P := P) (w := w) (ρ := ρ) hz
     cases hf : findS uk es with
     | none => trivial
     | some r =>
      rcases findS_ok K hlk hself hall h6 hf with ⟨g1, g2, g3⟩ | ⟨v', j, u, g1, g2, g3, e', g4, g5, g6, g7⟩
      ·subst g1;dsimp only;show UponE _ _ _ _ _ _ _ _ _;have htn := turn_set (o' := .map (entries.push { key := uk, val := uz, born := clock }) (clock + 1)) h5 (by simp)
       have hrun : (Instr.mapEntry t (.map (some l.b)) uk).run P w = .ok (.tuple #[uz, goInt clock]) { w with heap := w.heap.setIfInBounds l.b (.map (entries.push { key := uk, val := uz, born := clock }) (clock + 1)) } := by
        simp only [Instr.mapEntry, Sem.run_bind, run_underlying hu, Result.andThen_ok, hget, hck, g2, Sem.run_pure, hz1]
        simp [setObj, Sem.run, h5]
       rw [run_vS hrun];refine ⟨ρ, rel_turn hr htn hl hg rfl rfl (by omega) ⟨_, set_get h5, ?_, by simp [h7]⟩, ext_turn htn hl hro, .tup (.cons (VR.mono (fun _ _ h => h) htn.shapes hz2) (.cons (.lit _) .nil))⟩;rw [g3];have h6' := ER.mono (fun _ _ h => h) htn.shapes h6
       have happ : ∀ {a : List (Value × V)} {x : List MapEntry} {b : List (Value × V)} {y : List MapEntry} {w : World}, ER w ρ a x → ER w ρ b y → ER w ρ (a ++ b) (x ++ y) := by
        intro a x b y w ha hb
        induction ha with
        | nil => exact hb
        | cons p q r ih => exact .cons p q ih
       have := happ h6' (.cons (k := uk) (v := z) (e := { key := uk, val := uz, born := clock }) rfl (VR.mono (fun _ _ h => h) htn.shapes hz2) .nil)
       simpa using this
      ·subst g1;dsimp only;have hp := posS_ok hself hf;obtain ⟨j0, q1, q2, q3⟩ := findS_some hself hf;have hpj := q2 _ _ hp rfl;obtain ⟨v2, hv2⟩ := h6.at' g4;have hjj := q2 j _ hv2 g6
       have hjp : j = posS uk es := by omega
       split
       ·rename_i b0 hb0
        show UponE _ _ _ _ _ _ _ _ _;have htn := turn_set (o' := .map (entries.modify j fun e => { e with key := uk }) clock) h5 (by simp)
        have hent : entries[j]? = some e' := by simpa using g4
        have hks : (Instr.keyThatStays (((entries[j]?).map (·.key)).getD uk) uk).run P w = .ok uk w := by
         rw [hent];simp only [Option.map_some, Option.getD_some];rw [g6];exact K.stays w hlk
        have hborn : e'.born = b0 := by
         have h7' : (entries.toList.map (·.born))[j]? = some e'.born := by rw [List.getElem?_map, g4]; rfl
         rw [h7, hjp, hb0] at h7';exact (Option.some.inj h7').symm
        have hrun : (Instr.mapEntry t (.map (some l.b)) uk).run P w = .ok (.tuple #[u, goInt b0]) { w with heap := w.heap.setIfInBounds l.b (.map (entries.modify j fun e => { e with key := uk }) clock) } := by
         simp only [Instr.mapEntry, Sem.run_bind, run_underlying hu, Result.andThen_ok, hget, hck, g2, Sem.run_pure, hks]
         simp [setObj, Sem.run, h5, hent, hborn]
        rw [run_vS hrun]
        have hsame : (entries.modify j fun e => { e with key := uk }).toList = entries.toList := by
         rw [Array.toList_modify]
         apply List.ext_getElem?
         intro i;rw [List.getElem?_modify]
         by_cases hij : j = i
         ·subst hij;rw [g4]
          simp [← g6]
         ·simp [hij]
        refine ⟨ρ, rel_turn hr htn hl hg rfl rfl (by omega) ⟨_, set_get h5, ?_, by rw [hsame]; exact h7⟩, ext_turn htn hl hro, .tup (.cons (VR.mono (fun _ _ h => h) htn.shapes g3) (.cons (.lit _) .nil))⟩;rw [hsame];exact ER.mono (fun _ _ h => h) htn.shapes h6
       ·trivial
   ·trivial
 ·trivial
theorem findIdx_born {en : List MapEntry} {bs : List Nat} (hb : en.map (·.born) = bs) {b i : Nat} (h : bornAt b bs = some i) : en.findIdx? (fun e => (e.born : Int) == (b : Int)) = some i := by
 obtain ⟨h1, h2⟩ := bornAt_ok h;subst hb;rw [List.findIdx?_eq_some_iff_getElem];rw [List.getElem?_map] at h1
 have hi : i < en.length := by
  by_cases hi : i < en.length
  ·exact hi
  ·rw [List.getElem?_eq_none (by omega)] at h1; cases h1
 rw [List.getElem?_eq_getElem hi] at h1;simp only [Option.map_some, Option.some.injEq] at h1;refine ⟨hi, by simp [h1], fun j hj => ?_⟩;have := h2 j hj (en[j]).born (by rw [List.getElem?_map, List.getElem?_eq_getElem (by omega)]; rfl)
 simp
 intro e;exact this (by omega)
theorem g_entryStore (hr : Rel w0 ρ h w) (hd : Dom ρ c) (hct : c ≤ 1048576) {t : TypeId} {m s x : V} {um us ux : Value} (hm : VR w ρ m um) (hs : VR w ρ s us) (hx : VR w ρ x ux) : Good P w0 ro c ρ w (uS (Instr.entryStore t um us ux)) (oEntryStore h c ro m s x) := by
 unfold oEntryStore
 split
 ·rename_i id b
  have := hs.lit_inv; subst this
  cases hm with
  | @mp _ l hl =>
   split
   ·rename_i es clock bs hg
    cases hro : Nat.ble ro id with
    | false => trivial
    | true =>
     rw [cond_true];have hro := Nat.le_of_ble_eq_true hro;obtain ⟨bb, h1, h2, h3, h4⟩ := hr.blk id l hl
     have : bb = .map es clock bs := by rw [hg] at h1; exact (Option.some.inj h1).symm
     subst this;obtain ⟨entries, h5, h6, h7⟩ := h3;have hget := run_getObj (P := P) h5 (by simp) (by simp) (by simp) (by simp);have hid := hd id l hl
     split
     ·rename_i i hi
      show UponE _ _ _ _ _ _ _ _ _;have hfi := findIdx_born h7 hi;have htn := turn_set (o' := .map (entries.modify i fun e => { e with val := ux }) clock) h5 (by simp)
      have hfa : entries.findIdx? (fun e => (e.born : Int) == Int.ofNat b) = some i := by
       have e0 : entries = entries.toList.toArray := by simp
       rw [e0, List.findIdx?_toArray]; exact hfi
      have hrun : (Instr.entryStore t (.map (some l.b)) (.int .i64 (.ofNat b)) ux).run P w = .ok () { w with heap := w.heap.setIfInBounds l.b (.map (entries.modify i fun e => { e with val := ux }) clock) } := by
       simp only [Instr.entryStore, Sem.run_bind, Result.andThen_ok, hget, asInt, asIntOf, Sem.run_pure, hfa]
       simp [setObj, Sem.run, h5]
      rw [run_uS hrun];refine ⟨ρ, rel_turn hr htn hl hg rfl rfl (by omega) ⟨_, set_get h5, ?_, by rw [← h7]; exact born_modifyV _ _ _⟩, ext_turn htn hl hro, .lit undef⟩;rw [Array.toList_modify];exact ER.setVal (VR.mono (fun _ _ h => h) htn.shapes hx) (ER.mono (fun _ _ h => h) htn.shapes h6) i
     ·trivial
   ·trivial
 ·trivial
end
end Go.Ex
namespace Go.Ex
open Go.Sim (tyK fieldK zeroK placesK appK flatK setAt run_isAgg run_loadVar_agg run_loadVar_one run_storeAt run_alloc run_box run_fieldAt fieldK_spec toList_inj appK_spec run_storeCells)
section
variable {P : Program} {w0 : World} {ro c : Nat} {ρ : Rh} {h : H} {w : World}
theorem g_copyJ (hr : Rel w0 ρ h w) (hd : Dom ρ c) (hct : c ≤ 1048576) {t t2 ty e : TypeId} {k id off n id2 off2 m j : Nat} {b : Bool} {cap cap2 : Cp} {ud ux : Value} (hu : P.underlying t = some (.slice e)) (hty : tyK P e = some (k, b))
  (hdv : VR w ρ (.sl id off n k cap) ud) (hx : VR w ρ (.sl id2 off2 m k cap2) ux) (hmn : Nat.min m n = j) (hjn : j ≤ n) (hjm : j ≤ m) : Good P w0 ro c ρ w (vS (Builtin.copy_ #[t, t2] ty #[ud, ux])) (copyJ h c ro k id off id2 off2 j) := by
 unfold copyJ
 cases hcnd : (Nat.ble ro id && Nat.blt 0 j) with
 | false => trivial
 | true =>
  rw [cond_true];simp only [Bool.and_eq_true] at hcnd;have hro := Nat.le_of_ble_eq_true hcnd.1;have hn : 0 < j := Nat.le_of_ble_eq_true hcnd.2
  split
  ·rename_i l all hsl hg
   cases hfit : Nat.ble (off + j * k) all.length with
   | false => trivial
   | true =>
    have hfit := Nat.le_of_ble_eq_true hfit;rw [cond_true]
    cases hdv with
    | @sl _ _ _ _ cap' p _ l1 hl1 h1 h2 h3 h4 =>
     cases hx with
     | @sl _ _ _ _ cap2' p2 _ l2 hl2 q1 q2 q3 q4 =>
      obtain ⟨us, g1, g2, g3⟩ := slCells_ok hr hl2 hsl;obtain ⟨hp, _⟩ := h4.resolve_left (by omega);obtain ⟨hp2, _⟩ := q4.resolve_left (by omega);obtain ⟨bb, r1, r2, r3, r4⟩ := hr.blk id l1 hl1
      have : bb = .cells all := by rw [hg] at r1; exact (Option.some.inj r1).symm
      subst this;obtain ⟨cur, ty', k1, k2, k3⟩ := r3;obtain ⟨w', cur', s1, s2, s3, s4, s5, s6, s7, s8⟩ := run_storeCells (P := P) l1.b (l1.o + off) _ us 0 cur w k1 (by omega) g1.one
      have hcs : cur'.size = cur.size := by
       rw [← Array.length_toList, s3, ← Array.length_toList (xs := cur)];simp only [setAt, List.length_append, List.length_take, List.length_drop, Array.length_toList]
       omega
      have htn : Turn w l1.b w' := ⟨s5, s6, s7, s8, s4, fun vs t fr hh => by
       rw [k1] at hh; cases hh; exact ⟨cur', _, s2, hcs⟩⟩
      have hf := run_firstCells_some (P := P) w k j ⟨l2.b, p2, none⟩ m cap2' us g2 (fun j u hj => by rw [Addr.add_lit, hp2]; exact g3 j u hj);have hid := hd id l1 hl1
      have hrun : (Builtin.copy_ #[t, t2] ty #[.slice (some ⟨l1.b, p, none⟩) n cap', .slice (some ⟨l2.b, p2, none⟩) m cap2']).run P w = .ok (.int .i64 (Int.ofNat j)) w' := by
       subst hp
       simp [Builtin.copy_, run_underlying hu, Builtin.lenOf, Sim.run_sizeOf hty, hmn, hf, s1, goInt]
      show UponE _ _ _ _ _ _ _ _ _;rw [run_vS hrun];have hll := g1.length
      have hlen : (setAt all off l).length = all.length := by
       simp only [setAt, List.length_append, List.length_take, List.length_drop]
       omega
      refine ⟨ρ, rel_turn hr htn hl1 hg rfl rfl (by omega) ⟨cur', _, s2, by rw [hlen]; omega, ?_⟩, ext_turn htn hl1 hro, .lit _⟩;rw [hlen, s3, Nat.add_zero]
      have hml : cur.toList.length = cur.size := by simp
      rw [take_setAt (n := all.length) (by omega) (by omega)];exact VC.mono (fun _ _ h => h) htn.shapes (k3.setAt off g1)
  ·trivial
theorem g_copy (hr : Rel w0 ρ h w) (hd : Dom ρ c) (hct : c ≤ 1048576) {t t2 ty : TypeId} {d x : V} {ud ux : Value} (hdv : VR w ρ d ud) (hx : VR w ρ x ux) : Good P w0 ro c ρ w (vS (Builtin.copy_ #[t, t2] ty #[ud, ux])) (oCopy P h c ro [d, x] [t, t2]) := by
 unfold oCopy;dsimp only
 cases hs : slTy P t with
 | none => trivial
 | some e =>
  have hu := slTy_ok hs;dsimp only
  split
  ·rename_i k b id off n k1 cap id2 off2 m k2 cap2 hty
   cases hkk : (Nat.beq k k1 && Nat.beq k k2) with
   | false => trivial
   | true =>
    rw [cond_true];simp only [Bool.and_eq_true] at hkk;have e1 := Nat.eq_of_beq_eq_true hkk.1;have e2 := Nat.eq_of_beq_eq_true hkk.2;subst e1; subst e2;unfold copyV
    cases hnm : Nat.ble n m with
    | true =>
     have hnm := Nat.le_of_ble_eq_true hnm;rw [cond_true];exact g_copyJ hr hd hct hu hty hdv hx (Nat.min_eq_right hnm) (Nat.le_refl _) hnm
    | false =>
     have hnm : ¬ n ≤ m := fun h => by rw [Nat.ble_eq_true_of_le h] at hnm; cases hnm
     rw [cond_false];exact g_copyJ hr hd hct hu hty hdv hx (Nat.min_eq_left (by omega)) (by omega) (Nat.le_refl _)
  ·rename_i kb id off k1 cap hty
   have := hx.lit_inv; subst this
   cases hdv with
   | @sl _ _ _ _ cap' p _ l1 hl1 h1 h2 h3 h4 =>
    obtain ⟨k, b⟩ := kb;refine good_lit hr ?_
    simp [Builtin.copy_, run_underlying hu, Builtin.lenOf, Sim.run_sizeOf hty, Builtin.firstCells, storeCells, goInt]
  ·trivial
theorem run_zeroV {e : TypeId} {i : TypeInfo} {z : Value} (h1 : P.info? e = some i) (h2 : i.zero = some z) : (zeroValue e).run P w = .ok z w := run_zeroValue h1 h2
theorem g_clear (hr : Rel w0 ρ h w) (hd : Dom ρ c) (hct : c ≤ 1048576) {t ty : TypeId} {x : V} {ux : Value} (hx : VR w ρ x ux) : Good P w0 ro c ρ w (vS (Builtin.clear_ #[t] ty #[ux])) (oClear P h c ro [x] [t]) := by
 unfold oClear
 split
 ·rename_i id off n k1 cap t' heq heq2
  simp only [List.cons.injEq, and_true] at heq heq2;subst heq; subst heq2
  cases hs : slTy P t with
  | none => trivial
  | some e =>
   have hu := slTy_ok hs;dsimp only
   split
   ·rename_i k b zs hty hz
    cases hn0 : Nat.beq n 0 with
    | true =>
     have := Nat.eq_of_beq_eq_true hn0;subst this;rw [cond_true]
     cases hx with
     | @sl _ _ _ _ cap' p _ l hl h1 h2 h3 h4 =>
      refine good_same (u := .tuple #[]) hr ?_ (.tup .nil)
      simp [Builtin.clear_, run_underlying hu]
    | false =>
     rw [cond_false]
     cases hkk : Nat.beq k k1 with
     | false => trivial
     | true =>
      have := Nat.eq_of_beq_eq_true hkk;subst this;rw [cond_true];unfold clearV
      cases hcnd : (Nat.ble ro id && Nat.blt 0 n && zs.all Value.oneCell' && Nat.beq zs.length k) with
      | false => trivial
      | true =>
       rw [cond_true];simp only [Bool.and_eq_true] at hcnd;obtain ⟨⟨⟨c1, c2⟩, c3⟩, c4⟩ := hcnd;have hro := Nat.le_of_ble_eq_true c1;have hn : 0 < n := Nat.le_of_ble_eq_true c2;have c4 := Nat.eq_of_beq_eq_true c4;obtain ⟨i, z, hi, hz', hzs⟩ := zeroK_spec hz
       have hzsz : z.cells.size = k := by rw [← Array.length_toList, hzs, c4]
       split
       ·rename_i all hg
        cases hfit : Nat.ble (off + n * k) all.length with
        | false => trivial
        | true =>
         have hfit := Nat.le_of_ble_eq_true hfit;rw [cond_true]
         cases hx with
         | @sl _ _ _ _ cap' p _ l1 hl1 h1 h2 h3 h4 =>
          obtain ⟨hp, _⟩ := h4.resolve_left (by omega);obtain ⟨bb, r1, r2, r3, r4⟩ := hr.blk id l1 hl1
          have : bb = .cells all := by rw [hg] at r1; exact (Option.some.inj r1).symm
          subst this;obtain ⟨cur, ty', k1, k2, k3⟩ := r3;have g1 : VC w ρ (zerosOf zs n) (List.replicate n zs).flatten := zeros_vc c3 n
          have g2 : (List.replicate n zs).flatten.length = n * k := by simp [c4]
          have hzl : (Builtin.zeroCells z.cells n).toList = (List.replicate n zs).flatten := by
           rw [← hzs, ← zeros_list hzsz n]
           simp [Builtin.zeroCells, hzsz]
          obtain ⟨w', cur', s1, s2, s3, s4, s5, s6, s7, s8⟩ := run_storeCells (P := P) l1.b (l1.o + off) _ (List.replicate n zs).flatten 0 cur w k1 (by omega) g1.one
          have hcs : cur'.size = cur.size := by
           rw [← Array.length_toList, s3, ← Array.length_toList (xs := cur)];simp only [setAt, List.length_append, List.length_take, List.length_drop, Array.length_toList]
           omega
          have htn : Turn w l1.b w' := ⟨s5, s6, s7, s8, s4, fun vs t fr hh => by
           rw [k1] at hh; cases hh; exact ⟨cur', _, s2, hcs⟩⟩
          have hid := hd id l1 hl1
          have hrun : (Builtin.clear_ #[t] ty #[.slice (some ⟨l1.b, p, none⟩) n cap']).run P w = .ok (.tuple #[]) w' := by
           subst hp;obtain ⟨m, rfl⟩ : ∃ m, n = m + 1 := ⟨n - 1, by omega⟩
           simp [Builtin.clear_, run_underlying hu, run_zeroV (w := w) hi hz', hzl, s1]
          show UponE _ _ _ _ _ _ _ _ _;rw [run_vS hrun];have hll := g1.length
          have hlen : (setAt all off (zerosOf zs n)).length = all.length := by
           simp only [setAt, List.length_append, List.length_take, List.length_drop]
           omega
          refine ⟨ρ, rel_turn hr htn hl1 hg rfl rfl (by omega) ⟨cur', _, s2, by rw [hlen]; omega, ?_⟩, ext_turn htn hl1 hro, .tup .nil⟩;rw [hlen, s3, Nat.add_zero]
          have hml : cur.toList.length = cur.size := by simp
          rw [take_setAt (n := all.length) (by omega) (by omega)];exact VC.mono (fun _ _ h => h) htn.shapes (k3.setAt off g1)
       ·trivial
   ·trivial
 ·trivial
theorem g_lenV (hr : Rel w0 ρ h w) {t ty : TypeId} {x : V} {u : Value} (hx : VR w ρ x u) : Good P w0 ro c ρ w (vS (Builtin.len_ #[t] ty #[u])) (lenV P h c t x) := by
 unfold lenV
 split
 ·rename_i e id off n k cap hu
  cases hx with
  | sl hl h1 h2 h3 h4 => exact good_lit hr (by simp [Builtin.len_, underlying, hu, goInt])
 ·rename_i e hu
  have := hx.lit_inv; subst this;exact good_lit hr (by simp [Builtin.len_, underlying, hu, goInt])
 ·rename_i s hu
  have := hx.lit_inv; subst this;refine good_intV hr ?_;have hsz : s.data.toList.length = s.size := Array.length_toList;rw [hsz]
  simp [Builtin.len_, underlying, hu, goInt]
 ·trivial
theorem g_max (hr : Rel w0 ρ h w) {ts : Array TypeId} {ty : TypeId} {x y : V} {ux uy : Value} (hx : VR w ρ x ux) (hy : VR w ρ y uy) : Good P w0 ro c ρ w (vS (Builtin.max_ ts ty #[ux, uy])) (oMM h c true [x, y]) := by
 unfold oMM
 split
 ·rename_i a b heq
  simp only [List.cons.injEq, and_true] at heq;obtain ⟨rfl, rfl⟩ := heq;have := hx.lit_inv; subst this;have := hy.lit_inv; subst this;refine good_intV hr ?_;rw [ltI_eq];simp only [run_max_int2, cond_true]
  by_cases h1 : a < b
  ·rw [decide_eq_true h1, if_pos h1]; rfl
  ·rw [decide_eq_false h1, if_neg h1]; rfl
 ·trivial
theorem g_min (hr : Rel w0 ρ h w) {ts : Array TypeId} {ty : TypeId} {x y : V} {ux uy : Value} (hx : VR w ρ x ux) (hy : VR w ρ y uy) : Good P w0 ro c ρ w (vS (Builtin.min_ ts ty #[ux, uy])) (oMM h c false [x, y]) := by
 unfold oMM
 split
 ·rename_i a b heq
  simp only [List.cons.injEq, and_true] at heq;obtain ⟨rfl, rfl⟩ := heq;have := hx.lit_inv; subst this;have := hy.lit_inv; subst this;refine good_intV hr ?_;rw [ltI_eq];simp only [run_min_int2, cond_false]
  by_cases h1 : a < b
  ·rw [decide_eq_true h1, if_neg (by omega)]; rfl
  ·by_cases h2 : b < a
   ·rw [decide_eq_false h1, if_pos h2]; rfl
   ·have : a = b := by omega
    subst this;rw [decide_eq_false h1, if_neg h2]; rfl
 ·trivial
end
end Go.Ex
namespace Go.Ex
open Go.Sim (tyK fieldK zeroK placesK appK flatK setAt)
section
variable {P : Program} {w0 : World} {ro c : Nat} {ρ : Rh} {h : H} {w : World}
theorem vl_map {ev : Ev} {e : Operand → Value} : ∀ {l : List Operand}, (∀ x ∈ l, VR w ρ (ev x) (e x)) → VL w ρ (l.map ev) (l.map e)
 | [], _ => .nil
 | x :: l, h => .cons (h x List.mem_cons_self) (vl_map fun y hy => h y (List.mem_cons_of_mem _ hy))
theorem partsR_map {ev : Ev} {e : Operand → Value} {ps : Array (Nat × Operand)} (h : ∀ p ∈ ps.toList, VR w ρ (ev p.2) (e p.2)) : PartsR w ρ (partsV ev ps) (ps.map fun (i, x) => (i, e x)).toList := by
 refine ⟨by simp [partsV], fun j p q hp hq => ?_⟩;simp only [partsV, List.getElem?_map, Option.map_eq_some_iff] at hp;obtain ⟨r, h1, rfl⟩ := hp;rw [Array.toList_map, List.getElem?_map, h1] at hq;simp only [Option.map_some, Option.some.injEq] at hq;subst hq;exact ⟨rfl, h r (List.mem_of_getElem? h1)⟩
theorem or_map {ev : Ev} {e : Operand → Value} {x : Option Operand} (h : ∀ y, x = some y → VR w ρ (ev y) (e y)) : OR w ρ (x.map ev) (x.map e) := by
 cases x with
 | none => exact .none
 | some y => exact .some (h y rfl)
theorem g_appNil (hr : Rel w0 ρ h w) {t ty : TypeId} {s x : V} {u v : Value} (hs : VR w ρ s u) (hx : VR w ρ x v) (hn : isNil x = true) : Good P w0 ro c ρ w (vS (appS' t ty u v)) (appNil P h c t s) := by
 unfold appNil
 split
 ·rename_i ekb ha
  obtain ⟨e, k, by_⟩ := ekb;obtain ⟨i, z, t1, t2, t3, t4, t5, t6⟩ := Sim.appK_spec ha
  obtain ⟨a, cp, rfl⟩ : ∃ a cp, v = .slice a 0 cp := by
   unfold isNil at hn
   split at hn
   ·exact ⟨none, 0, hx.lit_inv⟩
   ·cases hx with | sl hl h1 h2 h3 h4 => exact ⟨_, _, rfl⟩
   ·cases hn
  have hf : ∀ n, (Builtin.firstCells n 0 (.slice a 0 cp)).run P w = .ok #[] w := by
   intro n
   cases a with
   | none => simp [Builtin.firstCells]
   | some a => simp [Builtin.firstCells, loadCells, loadCellsFrom]
  cases ho : okSl s with
  | false => trivial
  | true =>
   rw [cond_true];refine good_same hr ?_ hs;unfold okSl at ho
   split at ho
   ·have := hs.lit_inv; subst this
    simp [appS', Builtin.append_, run_underlying t1, sizeOf, typeInfo, t2, Builtin.lenOf, hf]
   ·cases hs with
    | sl hl h1 h2 h3 h4 => simp [appS', Builtin.append_, run_underlying t1, sizeOf, typeInfo, t2, Builtin.lenOf, hf, h1, storeCells]
   ·cases ho
 ·trivial
theorem iop_sound (hr : Rel w0 ρ h w) (hd : Dom ρ c) (hct : c ≤ 1048576) {o : Oper} {e : Operand → Value} {ev : Ev} (he : ∀ x ∈ o.op.operands, VR w ρ (ev x) (e x)) : Good P w0 ro c ρ w (execOp e o) (iop P h c ro o.op ev) := by
 obtain ⟨dst, op, type, pos, after, guard⟩ := o;dsimp only at he ⊢
 cases op with
 | move x => exact good_sameN hr rfl (he x (by simp [Op.operands]))
 | assign x => exact good_sameN hr rfl (he x (by simp [Op.operands]))
 | pick b x y => exact g_pick hr (he b (by simp [Op.operands])) (he x (by simp [Op.operands])) (he y (by simp [Op.operands]))
 | alloc t => exact g_alloc hr hd
 | box t x => exact g_box hr hd (he x (by simp [Op.operands]))
 | load t a => exact g_load hr (he a (by simp [Op.operands]))
 | store t a x => exact g_store hr hd hct (he a (by simp [Op.operands])) (he x (by simp [Op.operands]))
 | nilCheck x => exact g_nil hr (o := ⟨dst, .nilCheck x, type, pos, after, guard⟩) rfl (he x (by simp [Op.operands]))
 | binOp op t x y t' => exact g_binop hr (he x (by simp [Op.operands])) (he y (by simp [Op.operands]))
 | unOp op t x => exact g_un hr (he x (by simp [Op.operands]))
 | convert s t x => exact g_conv hr (he x (by simp [Op.operands]))
 | fieldAddr s x i => exact g_fieldAddr hr (he x (by simp [Op.operands]))
 | field s x i => exact g_field hr (he x (by simp [Op.operands]))
 | indexAddr t x i => exact g_indexAddr hr (he x (by simp [Op.operands])) (he i (by simp [Op.operands]))
 | index t x i => exact g_index hr (he x (by simp [Op.operands])) (he i (by simp [Op.operands]))
 | build t ps => exact g_build hr (partsR_map fun p hp => he p.2 (by simp [Op.operands]; exact ⟨p.1, by simpa using hp⟩))
 | buildSlice t n ps => exact g_buildSlice hr hd (partsR_map fun p hp => he p.2 (by simp [Op.operands]; exact ⟨p.1, by simpa using hp⟩))
 | makeFunc f first cap =>
  have := g_makeFunc (P := P) (w0 := w0) (ro := ro) (c := c) (f := f) hr (vl_map (l := first.toList) fun x hx => he x (by simp [Op.operands]; exact .inl (by simpa using hx))) (vl_map (l := cap.toList) fun x hx => he x (by simp [Op.operands]; exact .inr (by simpa using hx)));rw [← Array.toList_map, ← Array.toList_map] at this;exact this
 | makeMap t r => exact g_makeMap hr hd
 | lookup t m k ok => exact g_lookup hr (he m (by simp [Op.operands])) (he k (by simp [Op.operands]))
 | mapUpdate t m k v => exact g_mapUpdate hr hd hct (he m (by simp [Op.operands])) (he k (by simp [Op.operands])) (he v (by simp [Op.operands]))
 | mapEntry t m k => exact g_mapEntry hr hd hct (he m (by simp [Op.operands])) (he k (by simp [Op.operands]))
 | entryStore t m s x => exact g_entryStore hr hd hct (he m (by simp [Op.operands])) (he s (by simp [Op.operands])) (he x (by simp [Op.operands]))
 | insert t m k v => exact g_mapUpdate hr hd hct (he m (by simp [Op.operands])) (he k (by simp [Op.operands])) (he v (by simp [Op.operands]))
 | range t x => exact g_range hr hd (he x (by simp [Op.operands]))
 | next i str => exact g_next hr hd hct (he i (by simp [Op.operands]))
 | entry i => exact g_entry hr (he i (by simp [Op.operands]))
 | makeSlice t l cp => exact g_makeSlice hr hd (he l (by simp [Op.operands])) (he cp (by simp [Op.operands]))
 | slice t x lo hi mx =>
  refine g_slice hr (he x (by simp [Op.operands])) (or_map fun y hy => he y ?_) (or_map fun y hy => he y ?_) (or_map fun y hy => he y ?_)
  all_goals subst hy; simp [Op.operands]
 | extract x i => exact g_extract hr (he x (by simp [Op.operands]))
 | call cl =>
  obtain ⟨callee, as, ts⟩ := cl
  have hal : VL w ρ (mapL ev as) (as.map e).toList := by
   rw [Array.toList_map];exact vl_map fun x hx => he x (by simp [Op.operands, Call.operands]; exact .inr (by simpa using hx))
  cases callee with
  | invoke _ _ => trivial
  | value f =>
   have hf := he f (by simp [Op.operands, Call.operands]);show Good _ _ _ _ _ _ _ (oCall (ev f) (mapL ev as));unfold oCall
   split
   ·rename_i f' hfe
    rw [hfe] at hf;have := hf.lit_inv;exact ⟨(as.map e).toList, by simp [execOp, resolve, this, Deferred.ofValue, invoke, ← Array.toList_map], hal⟩
   ·rename_i f' first cap hfe
    rw [hfe] at hf;generalize hu : e f = u at hf
    cases hf with
    | @fn _ _ _ fs cs h1 h2 =>
     have harr : (fs ++ (as.map e).toList ++ cs).toArray = fs.toArray ++ (as.map e ++ cs.toArray) := by apply Array.ext'; simp
     exact ⟨fs ++ (as.map e).toList ++ cs, by rw [harr]; simp [execOp, resolve, hu, Deferred.ofValue, invoke], (h1.append hal).append h2⟩
   ·rename_i id hfe
    rw [hfe] at hf;generalize hu : e f = u at hf
    cases hf with
    | @yd _ l h1 => exact ⟨l, (as.map e).toList, h1, by simp [execOp, resolve, hu, Deferred.ofValue, invoke, ← Array.toList_map], hal⟩
   ·trivial
  | builtin b =>
   obtain ⟨ks, hrun⟩ : ∃ ks, execOp e ⟨dst, .call ⟨.builtin b, as, ts⟩, type, pos, after, guard⟩ = builtin b ts type ks (as.map e) := ⟨_, rfl⟩;show Good _ _ _ _ _ _ _ (oBuiltin P h c ro b (mapL ev as) ts.toList);rw [hrun]
   have tsl : ∀ {t : TypeId}, ts.toList = [t] → ts = #[t] := fun h => by rw [← Array.toArray_toList (xs := ts), h]
   have tsl2 : ∀ {t u : TypeId}, ts.toList = [t, u] → ts = #[t, u] := fun h => by rw [← Array.toArray_toList (xs := ts), h]
   generalize hvl : mapL ev as = vl at hal;generalize hul : (as.map e) = ul at hal ⊢
   have ul1 : ∀ {u : Value}, ul.toList = [u] → ul = #[u] := fun h => by rw [← Array.toArray_toList (xs := ul), h]
   have ul2 : ∀ {u v : Value}, ul.toList = [u, v] → ul = #[u, v] := fun h => by rw [← Array.toArray_toList (xs := ul), h]
   generalize hl : ul.toList = us at hal
   cases b with
   | len =>
    show Good _ _ _ _ _ _ _ (oLen P h c vl ts.toList);unfold oLen
    split
    ·rename_i x t hts
     cases hal with
     | cons hx htl =>
      cases htl
      rw [ul1 hl, tsl hts];exact g_lenV hr hx
    ·trivial
   | append =>
    show Good _ _ _ _ _ _ _ (oAppend P h c ro vl ts.toList);unfold oAppend
    split
    ·rename_i s x t t' hts
     cases htt : Nat.beq t t' with
     | false => trivial
     | true =>
      have := Nat.eq_of_beq_eq_true htt;subst this;rw [cond_true]
      cases hal with
      | cons hs htl =>
       cases htl with
       | cons hx htl2 =>
        cases htl2
        rw [ul2 hl, tsl2 hts]
        cases hn : isNil x with
        | true => exact g_appNil hr hs hx hn
        | false => exact g_append hr hd hs hx
    ·trivial
   | max =>
    show Good _ _ _ _ _ _ _ (oMM h c true vl)
    cases hal with
    | nil => trivial
    | cons hx htl =>
     cases htl with
     | nil => unfold oMM; split <;> first | trivial | (rename_i hh; simp at hh)
     | cons hy htl2 =>
      cases htl2 with
      | nil => rw [ul2 hl]; exact g_max hr hx hy
      | cons _ _ => unfold oMM; split <;> first | trivial | (rename_i hh; simp at hh)
   | min =>
    show Good _ _ _ _ _ _ _ (oMM h c false vl)
    cases hal with
    | nil => trivial
    | cons hx htl =>
     cases htl with
     | nil => unfold oMM; split <;> first | trivial | (rename_i hh; simp at hh)
     | cons hy htl2 =>
      cases htl2 with
      | nil => rw [ul2 hl]; exact g_min hr hx hy
      | cons _ _ => unfold oMM; split <;> first | trivial | (rename_i hh; simp at hh)
   | copy =>
    show Good _ _ _ _ _ _ _ (oCopy P h c ro vl ts.toList)
    cases hal with
    | nil => trivial
    | cons hx htl =>
     cases htl with
     | nil => trivial
     | cons hy htl2 =>
      cases htl2 with
      | nil =>
       rcases hts : ts.toList with _ | ⟨t, _ | ⟨t2, _ | _⟩⟩
       ·trivial
       ·trivial
       ·rw [ul2 hl, tsl2 hts]; exact g_copy hr hd hct hx hy
       ·trivial
      | cons _ _ => unfold oCopy; rcases ts.toList with _ | ⟨t, _ | ⟨t2, _ | _⟩⟩ <;> trivial
   | clear =>
    show Good _ _ _ _ _ _ _ (oClear P h c ro vl ts.toList)
    cases hal with
    | nil => trivial
    | cons hx htl =>
     cases htl with
     | nil =>
      rcases hts : ts.toList with _ | ⟨t, _ | _⟩
      ·unfold oClear; split <;> first | trivial | (rename_i hh; simp at hh)
      ·rw [ul1 hl, tsl hts]; exact g_clear hr hd hct hx
      ·unfold oClear; split <;> first | trivial | (rename_i hh; simp at hh)
     | cons _ _ => unfold oClear; split <;> first | trivial | (rename_i hh _; simp at hh)
   | _ => trivial
 | _ => trivial
end
end Go.Ex
namespace Go.Ex
section
variable {P : Program} {gl : Nat → Bool}
theorem opnds_eq (s : S) : ∀ l : List Operand, (opnds gl l).run s = l.map fun x => (opnd gl x).run s
 | [] => rfl
 | x :: l => by
  show (opnd gl x).run s :: (opnds gl l).run s = _;rw [opnds_eq s l]; rfl
theorem parts_eq (s : S) : ∀ l : List (Nat × Operand), (parts gl l).run s = l.map fun p => (p.1, (opnd gl p.2).run s)
 | [] => rfl
 | (i, x) :: l => by
  show (i, (opnd gl x).run s) :: (parts gl l).run s = _;rw [parts_eq s l]; rfl
theorem opndO_eq (s : S) (x : Option Operand) : (opndO gl x).run s = x.map fun x => (opnd gl x).run s := by cases x <;> rfl
theorem comp_eq (op : Op) (ro : Nat) (s : S) : (comp P gl op).run ro s = iop P s.h s.c ro op (fun x => (opnd gl x).run s) := by
 cases op with
 | build t ps => show oBuild _ _ _ _ _ = _; rw [parts_eq]; rfl
 | buildSlice t n ps => show oBuildSlice _ _ _ _ _ _ = _; rw [parts_eq]; rfl
 | makeFunc f first cap => show oMakeFunc _ _ _ _ _ = _; rw [opnds_eq, opnds_eq]; rfl
 | slice t x lo hi mx => show oSlice _ _ _ _ _ _ _ _ = _; rw [opndO_eq, opndO_eq, opndO_eq]; rfl
 | call cl =>
  obtain ⟨callee, as, ts⟩ := cl
  cases callee with
  | value f => show oCall _ _ = _; rw [opnds_eq]; rfl
  | invoke _ _ => rfl
  | builtin b => show oBuiltin _ _ _ _ _ _ _ = _; rw [opnds_eq]; rfl
 | _ => rfl
def DefOk (m : Nat) (ρ : Rh) (w : World) (ds : List Deferred) : Prop := ds.Nodup ∧ ∀ d ∈ ds, ∃ D, d = { target := .collected D, args := #[] } ∧ m ≤ D ∧ w.heap[D]? = some (.deferred (some [])) ∧ ∀ id l, ρ id = some l → l.b ≠ D
theorem DefOk.nil {m : Nat} {ρ : Rh} {w : World} : DefOk m ρ w [] := ⟨.nil, fun _ h => by cases h⟩
theorem DefOk.ext {m ro c c' : Nat} {ρ ρ' : Rh} {w w' : World} {ds : List Deferred} (h : DefOk m ρ w ds) (e : Ext ro c ρ w ρ' w' c') : DefOk m ρ' w' ds := ⟨h.1, fun d hd => by
 obtain ⟨D, h1, h2, h3, h4⟩ := h.2 d hd;have hlt : D < w.heap.size := (Array.getElem?_eq_some_iff.1 h3).1;refine ⟨D, h1, h2, (e.frame D hlt fun id l _ hl => h4 id l hl).trans h3, fun id l hl he => ?_⟩
 rcases e.fresh id l hl with k | ⟨_, _, k | ⟨id0, l0, _, k1, k2⟩⟩
 ·exact h4 id l k he
 ·omega
 ·exact h4 id0 l0 k1 (k2.trans he)⟩
structure SR (w0 : World) (gl : Nat → Bool) (n m : Nat) (ρ : Rh) (s : S) (a : Act) (w : World) : Prop where
 defers : DefOk m ρ w a.defers
 size : a.tmps.size = n
 rel : Rel w0 ρ s.h w
 dom : Dom ρ s.c
 top : s.c ≤ 1048576
 glob : ∀ g, gl g = true → ρ g = some ⟨g, 0⟩
 mbl : m ≤ w.heap.size
 tmps : ∀ i, VR w ρ (tmpV (s.t.get i)) (a.tmps.getD i undef)
theorem opnd_ok {w0 : World} {n m : Nat} {ρ : Rh} {s : S} {a : Act} {w : World} (h : SR w0 gl n m ρ s a w) (x : Operand) : VR w ρ ((opnd gl x).run s) (a.eval x) := by
 cases x with
 | tmp i => exact h.tmps i
 | const v => exact .lit v
 | func f => exact .lit _
 | global g =>
  show VR w ρ (bif gl g then V.ptr g 0 else .lit (.pointer (some ⟨g, 0, none⟩))) _
  cases hg : gl g with
  | false => exact .lit _
  | true =>
   have := VR.ptr (w := w) (off := 0) (h.glob g hg);exact this
theorem putObj_turn {w : World} {l : Nat} {o o' : Obj} (h : w.heap[l]? = some o) (hn : ∀ a b c, o ≠ .cells a b c) : Turn w l (w.putObj l o') where
 size := World.putObj_size
 os := rfl
 tape := rfl
 output := rfl
 other := fun x hx => World.putObj_heap_other hx
 shape := fun vs t fr hh => by rw [h] at hh; cases hh; exact absurd rfl (hn _ _ _)
theorem DefOk.turn {m b : Nat} {ρ : Rh} {w w' : World} {ds : List Deferred} (h : DefOk m ρ w ds) (t : Turn w b w') {id : Nat} {l : Loc} (hl : ρ id = some l) (hb : l.b = b) : DefOk m ρ w' ds := ⟨h.1, fun d hd => by
 obtain ⟨D, h1, h2, h3, h4⟩ := h.2 d hd
 exact ⟨D, h1, h2, (t.other D fun e => h4 id l hl (hb.trans e.symm)).trans h3, h4⟩⟩
def Fr (r : Option Nat) : Fence := { fn := fun _ => True, depth := none, alive := false, round := r }
theorem callsIn_fr {r : Option Nat} {n : Nat} {f : FuncId} {args : Array Value} {w : World} {R : Ending → World → Prop} (h : Calls P f args w R) : CallsIn (Fr r) n P f args w R := by
 have h1 : CallsIn Fence.wide n P f args w R := callsIn_wide.2 h
 cases r with
 | none => exact h1
 | some l => exact CallsIn.inRound l h1
theorem fr_room {r : Option Nat} {n : Nat} : (Fr r).depth.isSome = true → 1 ≤ n := fun h => by simp [Fr] at h
def Yields (P : Program) (l : Nat) (args : Array Value) (w : World) (R : Ending → World → Prop) : Prop :=
 ∃ fn tmps assign body, (Instr.yield l args).run P w = .ok (.round l fn tmps assign body) w ∧ RoundIn Fence.wide 0 P l fn tmps assign body w R
theorem roundIn_fr {r : Option Nat} {n : Nat} {l : Nat} {f : FuncId} {tmps : Array Value} {assign body : Code} {w : World} {R : Ending → World → Prop} (h : RoundIn Fence.wide n P l f tmps assign body w R) : RoundIn (Fr r) n P l f tmps assign body w R := by
 cases r with
 | none => exact h
 | some l => exact h
end
end Go.Ex
namespace Go.Ex
section
variable {P : Program} {gl : Nat → Bool} {GW : World → Prop} {ck : CallK} {n : Nat} {w0 : World} {ops : Array Oper} {ro mb : Nat} {r : Option Nat}
abbrev Left (w0 : World) (ro c : Nat) (ρ : Rh) (w : World) (v : V) (h' : H) (c' : Nat) : Ending → World → Prop := fun e w' => ∃ u ρ', e = .returned u ∧ Rel w0 ρ' h' w' ∧ Ext ro c ρ w ρ' w' c' ∧ VR w' ρ' v u
structure CKok (P : Program) (gl : Nat → Bool) (GW : World → Prop) (ck : CallK) : Prop where
 fn : ∀ f as h c ro v h' c', ck (.fn f) as h c ro = .ok (v, h', c') → Sim.Known P f ∧
  ∀ w0 ρ w (args : List Value), GW w0 → Rel w0 ρ h w → Dom ρ c → c ≤ 1048576 → (∀ g, gl g = true → ρ g = some ⟨g, 0⟩) → VL w ρ as args →
   Calls P f args.toArray w (Left w0 ro c ρ w v h' c')
 yd : ∀ id as h c ro v h' c', ck (.yd id) as h c ro = .ok (v, h', c') →
  ∀ w0 ρ w (args : List Value) (l : Loc), GW w0 → Rel w0 ρ h w → Dom ρ c → c ≤ 1048576 → (∀ g, gl g = true → ρ g = some ⟨g, 0⟩) → ρ id = some l → VL w ρ as args →
   Yields P l.b args.toArray w (Left w0 ro c ρ w v h' c')
theorem semAt_fr {r : Option Nat} {e : Operand → Value} {o : Oper} {w w' : World} {nx : Next} (h : (execOp e o).run P w = .ok nx w') (hd : ∀ d, nx ≠ .defer d) : o.semAt (Fr r).round e = execOp e o := by
 cases r with
 | none => rfl
 | some l =>
  refine Oper.semAt_some l _ _ fun c hc => ?_;simp only [execOp, hc, Sem.run_bind] at h
  cases hq : (resolve e c o.type).run P w with
  | ok d w'' => rw [hq] at h; simp at h; exact absurd h.1.symm (hd d)
  | halt x w'' => rw [hq] at h; cases h
theorem put_ok (hn : n ≤ 1048576) {ρ ρ' : Rh} {s s' : S} {a : Act} {w w' : World} {dst : Option Nat} {pos : String} {v : V} {u : Value} {h' : H} {c' : Nat} (hs : SR w0 gl n mb ρ s a w) (hp : compPut n dst pos s v h' c' = .ok s')
  (hr : Rel w0 ρ' h' w') (he : Ext ro s.c ρ w ρ' w' c') (hv : VR w' ρ' v u) : SR w0 gl n mb ρ' s' (a.put dst u) w' ∧ s'.c = c' := by
 unfold compPut at hp
 cases dst with
 | none =>
  simp only [Re.ok.injEq] at hp;subst hp;exact ⟨⟨hs.defers.ext he, hs.size, hr, he.dom hs.dom, he.cap hs.top, fun g hg => he.sub _ _ (hs.glob g hg), Nat.le_trans hs.mbl he.size, fun i => he.vr (hs.tmps i)⟩, rfl⟩
 | some d =>
  dsimp only at hp
  cases hd : Nat.blt d n with
  | false => rw [hd] at hp; cases hp
  | true =>
   rw [hd, cond_true] at hp;simp only [Re.ok.injEq] at hp;subst hp;have hdn : d < n := Nat.le_of_ble_eq_true hd;refine ⟨⟨by rw [Sim.defers_put]; exact hs.defers.ext he, by rw [Sim.size_put]; exact hs.size, hr, he.dom hs.dom, he.cap hs.top, fun g hg => he.sub _ _ (hs.glob g hg), Nat.le_trans hs.mbl he.size, fun i => ?_⟩, rfl⟩;rw [Sim.getD_put _ _ _ (fun d' h => by cases h; rw [hs.size]; exact hdn)];have hgs : (Tr.setP v (path d) s.t).get i = if i = d then some v else s.t.get i := get_set (t := s.t) (m := i) (by omega);rw [hgs]
   by_cases hi : i = d
   ·subst hi; simp only [if_true]; exact hv
   ·rw [if_neg hi, if_neg (by simp; omega)];exact he.vr (hs.tmps i)
theorem stepR_ok (hn : n ≤ 1048576) (hgw : GW w0) (hck : CKok P gl GW ck) {o : Oper} {ρ : Rh} {s s' : S} {a : Act} {w : World} (hs : SR w0 gl n mb ρ s a w) (hrun : stepR n ck o ro s ((comp P gl o.op).run ro s) = .ok s') {K : Act → World → Prop} {Q : Exit → Act → World → Prop}
  (hK : ∀ ρ' a' w', SR w0 gl n mb ρ' s' a' w' → Ext ro s.c ρ w ρ' w' s'.c → K a' w') : o.wpIn (Fr r) 0 P a w K Q := by
 have hg := iop_sound (P := P) (ro := ro) (o := o) (e := a.eval) hs.rel hs.dom hs.top (fun x _ => opnd_ok hs x);rw [comp_eq] at hrun;unfold stepR at hrun
 cases hi : iop P s.h s.c ro o.op (fun x => (opnd gl x).run s) with
 | none => rw [hi] at hrun; cases hrun
 | some r =>
  rw [hi] at hrun hg
  cases r with
  | val v h' c' =>
   dsimp only at hrun;have hg' : UponE w0 ro s.c ρ w v h' c' ((execOp a.eval o).run P w) := hg;refine ⟨fun _ _ => trivial, ?_⟩
   cases hres : (execOp a.eval o).run P w with
   | halt => rw [hres] at hg'; exact hg'.elim
   | ok nx w' =>
    rw [hres] at hg';rw [semAt_fr hres (fun d hd => by rw [hd] at hg'; exact hg'.elim), hres]
    cases nx <;> simp only [UponE] at hg' <;> simp only [Oper.uponIn]
    case value u =>
     obtain ⟨ρ', h1, h2, h3⟩ := hg';obtain ⟨g1, g2⟩ := put_ok hn hs hrun h1 h2 h3;exact hK ρ' _ _ g1 (by rw [g2]; exact h2)
    case skip =>
     obtain ⟨ρ', h1, h2, h3⟩ := hg';obtain ⟨g1, g2⟩ := put_ok hn hs hrun h1 h2 h3;exact hK ρ' _ _ g1 (by rw [g2]; exact h2)
  | call f as =>
   dsimp only at hrun
   cases hc : ck (.fn f) as s.h s.c ro with
   | no why => rw [hc] at hrun; cases hrun
   | ok vhc =>
    obtain ⟨v, h', c'⟩ := vhc;rw [hc] at hrun;dsimp only at hrun;obtain ⟨args, g1, g2⟩ : ∃ args : List Value, (execOp a.eval o).run P w = (callFunc f args.toArray).run P w ∧ VL w ρ as args := hg;obtain ⟨⟨fn, k1, k2, k3⟩, hcall⟩ := hck.fn f as s.h s.c ro v h' c' hc;have hcl := hcall w0 ρ w args hgw hs.rel hs.dom hs.top hs.glob g2;refine ⟨fun _ _ => trivial, ?_⟩;have hres := g1.trans (Sim.run_callFunc k1 k2 k3 (w := w) (args := args.toArray));rw [semAt_fr hres (fun d hd => by cases hd), hres];simp only [Oper.uponIn];refine ⟨fr_room, callsIn_fr (hcl.mono ?_)⟩;rintro e w' ⟨u, ρ', rfl, h1, h2, h3⟩;obtain ⟨g3, g4⟩ := put_ok hn hs hrun h1 h2 h3;exact hK ρ' _ _ g3 (by rw [g4]; exact h2)
  | yield id as =>
   dsimp only at hrun
   cases hc : ck (.yd id) as s.h s.c ro with
   | no why => rw [hc] at hrun; cases hrun
   | ok vhc =>
    obtain ⟨v, h', c'⟩ := vhc;rw [hc] at hrun;dsimp only at hrun;obtain ⟨l, args, g0, g1, g2⟩ : ∃ (l : Loc) (args : List Value), ρ id = some l ∧ (execOp a.eval o).run P w = (Instr.yield l.b args.toArray).run P w ∧ VL w ρ as args := hg;obtain ⟨fn, tmps, assign, body, q1, q2⟩ := hck.yd id as s.h s.c ro v h' c' hc w0 ρ w args l hgw hs.rel hs.dom hs.top hs.glob g0 g2;refine ⟨fun _ _ => trivial, ?_⟩;have hres := g1.trans q1;rw [semAt_fr hres (fun d hd => by cases hd), hres];simp only [Oper.uponIn];refine ⟨fr_room, roundIn_fr (q2.mono ?_)⟩;rintro e w' ⟨u, ρ', rfl, h1, h2, h3⟩;obtain ⟨g3, g4⟩ := put_ok hn hs hrun h1 h2 h3;exact hK ρ' _ _ g3 (by rw [g4]; exact h2)
theorem step_ok (hn : n ≤ 1048576) (hgw : GW w0) (hck : CKok P gl GW ck) {o : Oper} {ρ : Rh} {s s' : S} {a : Act} {w : World} (hs : SR w0 gl n mb ρ s a w) (hrun : (compOp P gl n ck ops o).run ro s = .ok s') {K : Act → World → Prop} {Q : Exit → Act → World → Prop}
  (hK : ∀ ρ' a' w', SR w0 gl n mb ρ' s' a' w' → Ext ro s.c ρ w ρ' w' s'.c → K a' w') :
  if Region.wanted o (yielded ops a.tmps) then o.wpIn (Fr r) 0 P a w K Q else (∀ f, o.about P w a.eval = some f → (Fr r).fn f) ∧ K (a.put o.dst undef) w := by
 unfold compOp at hrun
 cases hg : o.guard with
 | none =>
  rw [hg] at hrun;dsimp only at hrun
  have : Region.wanted o (yielded ops a.tmps) = true := by simp [Region.wanted, hg]
  rw [this];simp only [if_true];exact stepR_ok hn hgw hck hs hrun hK
 | some jw =>
  obtain ⟨j, want⟩ := jw;rw [hg] at hrun;dsimp only at hrun
  have key : ∀ b, (compW ops o).run s = some b → Region.wanted o (yielded ops a.tmps) = b := by
   intro b hb;unfold compW at hb;rw [hg] at hb;dsimp only at hb
   cases hd : (ops[j]?).bind (·.dst) with
   | none => rw [hd] at hb; cases hb
   | some d =>
    rw [hd] at hb;dsimp only at hb;have ht := hs.tmps d;rw [Array.getD_eq_getD_getElem?] at ht;have hb' : isWant want (tmpV (s.t.get d)) = some b := hb;unfold Region.wanted;simp only [hg, yielded, hd, Option.bind_some];unfold isWant at hb'
    split at hb'
    ·rename_i b0 hv
     rw [hv] at ht;have := ht.lit_inv
     cases hq : a.tmps[d]? with
     | none => rw [hq] at this; simp [undef] at this
     | some x =>
      rw [hq] at this;simp only [Option.getD_some] at this;subst this
      simpa using hb'
    ·rename_i v0 hnb hv
     rw [hv] at ht;have := ht.lit_inv;simp only [Option.some.injEq] at hb';subst hb'
     cases hq : a.tmps[d]? with
     | none => rfl
     | some x =>
      rw [hq] at this;simp only [Option.getD_some] at this;subst this
      cases x <;> first | rfl | exact absurd rfl (hnb _)
    ·cases hb'
  unfold guarded at hrun
  cases hw : (compW ops o).run s with
  | none => rw [hw] at hrun; cases hrun
  | some b =>
   rw [hw] at hrun;rw [key b hw]
   cases b with
   | true =>
    simp only [if_true];exact stepR_ok hn hgw hck hs hrun hK
   | false =>
    simp only [Bool.false_eq_true, if_false];dsimp only at hrun;obtain ⟨g1, g2⟩ := put_ok (ro := ro) hn hs hrun hs.rel Ext.refl (.lit undef);exact ⟨fun _ _ => trivial, hK ρ _ _ g1 (by rw [g2]; exact Ext.refl)⟩
theorem steps_ok (hn : n ≤ 1048576) (hgw : GW w0) (hck : CKok P gl GW ck) {Q : Exit → Act → World → Prop} : ∀ (l : List Oper) {ρ : Rh} {s s' : S} {a : Act} {w : World}, SR w0 gl n mb ρ s a w → (compOps P gl n ck ops l).run ro s = .ok s' →
  (∀ ρ' a' w', SR w0 gl n mb ρ' s' a' w' → Ext ro s.c ρ w ρ' w' s'.c → Q .normal a' w') → wpListIn (Fr r) 0 P ops Q l a w
 | [], ρ, s, s', a, w, hs, hrun, hQ => by
  simp only [compOps, Re.ok.injEq] at hrun;subst hrun;exact hQ ρ a w hs Ext.refl
 | o :: l, ρ, s, s', a, w, hs, hrun, hQ => by
  simp only [compOps] at hrun
  cases h1 : (compOp P gl n ck ops o).run ro s with
  | no why => rw [h1] at hrun; cases hrun
  | ok s1 =>
   rw [h1] at hrun;have hrun' : (compOps P gl n ck ops l).run ro s1 = .ok s' := hrun;exact step_ok hn hgw hck hs h1 fun ρ1 a1 w1 hs1 he1 => steps_ok hn hgw hck l hs1 hrun' fun ρ' a' w' hs' he' => hQ ρ' a' w' hs' (he1.trans he')
end
end Go.Ex
namespace Go.Ex
section
variable {P : Program} {b : Frame} {a : Act} {k : List Item} {cs : List Frame} {w : World} {F : Fence} {n : Nat} {Q : Exit → Act → World → Prop}
theorem stepR_scope {c : Code} : step P (lone (b.atR a (.code (.scope c) :: k)) cs w) = .next (lone (b.atR a (.code c :: .inScope c :: k)) cs w) := step_lone_go (by simp [stepG, stepG.exec, Frame.atR])
theorem stepR_inScope {c : Code} : step P (lone (b.atR a (.inScope c :: k)) cs w) = .next (lone (b.atR a k) cs w) := step_lone_go (by simp [stepG, stepG.exec, Frame.atR])
theorem wpIn_scope {c : Code} (h : c.wpIn F n P (Exit.noGoto Q) a w) : (Code.scope c).wpIn F n P Q a w := by
 intro b k cs hro hb hr;have h0 : (lone (b.atR a (.code (.scope c) :: k)) cs w).fenced P F := fenced_calm hb hr rfl;obtain ⟨e, a₁, w₁, hq, harr⟩ := h b (.inScope c :: k) cs hro hb hr
 cases e with
 | normal => exact ⟨.normal, a₁, w₁, hq, .head h0 stepR_scope (StepsIn.trans harr (.one (fenced_calm hb hr rfl) stepR_inScope))⟩
 | exit id =>
  have hx : exitTo id (.inScope c :: k) = exitTo id k := by simp [exitTo]
  exact ⟨_, a₁, w₁, hq, fun k' hk => .head h0 stepR_scope (harr.1 k' (by rw [hx]; exact hk)),
   fun hr' hk => let ⟨k₁, h1, h2⟩ := harr.2 hr' (by rw [hx]; exact hk); ⟨k₁, h1, .head h0 stepR_scope h2⟩⟩
 | goto l => exact hq.elim
 | ret => exact ⟨_, a₁, w₁, hq, .of_steps (.one h0 stepR_scope) harr⟩
 | panic ch => exact ⟨_, a₁, w₁, hq, .of_steps (.one h0 stepR_scope) harr⟩
 | outgrown => exact ⟨_, a₁, w₁, hq, .of_steps (.one h0 stepR_scope) harr⟩
end
section
variable {P : Program} {gl : Nat → Bool} {GW : World → Prop} {ck : CallK} {n : Nat} {w0 : World} {ro mb : Nat}
def DrawOk (P : Program) (gl : Nat → Bool) (ck : CallK) (n mb : Nat) (w0 : World) (ro : Nat) : Prop := ∀ (r : Option Nat) (ops : Array Oper) (Q : Exit → Act → World → Prop) (ρ : Rh) (s s' : S) (a : Act) (w : World), orderOk ops = true → SR w0 gl n mb ρ s a w →
 (compOpsD P gl n ck ops ops.toList 0).run s.c ro s = .ok s' → (∀ ρ' a' w', SR w0 gl n mb ρ' s' a' w' → Ext ro s.c ρ w ρ' w' s'.c → Q .normal a' w') → wpAnyIn (Fr r) 0 P .any ops Q ops.size (Array.replicate ops.size false) a { w with drawn := w.drawn + 1 }
def WildOk (P : Program) (gl : Nat → Bool) (ck : CallK) (n mb : Nat) (w0 : World) (ro : Nat) : Prop := ∀ (r : Option Nat) (ops : Array Oper) (Q : Exit → Act → World → Prop) (ρ : Rh) (s s' : S) (a : Act) (w : World), wild ops = true → SR w0 gl n mb ρ s a w →
 wildC P gl n ck ops ro s = .ok s' → (∀ ρ' a' w', SR w0 gl n mb ρ' s' a' w' → Ext ro s.c ρ w ρ' w' s'.c → Q .normal a' w') → wpAnyIn (Fr r) 0 P .any ops Q ops.size (Array.replicate ops.size false) a { w with drawn := w.drawn + 1 }
def CodeOk (P : Program) (gl : Nat → Bool) (n mb : Nat) (w0 : World) (ro : Nat) (rd : Bool) (c : Code) (f : S → Re (Exit × S)) : Prop := ∀ (r : Option Nat), (rd = false → r = none) → ∀ {ρ : Rh} {s s' : S} {a : Act} {w : World} {x : Exit}, SR w0 gl n mb ρ s a w → f s = .ok (x, s') →
 c.wpIn (Fr r) 0 P (fun x' a' w' => x' = x ∧ ∃ ρ', SR w0 gl n mb ρ' s' a' w' ∧ Ext ro s.c ρ w ρ' w' s'.c) a w
theorem then_ok {x : Re (Exit × S)} {k : S → Re (Exit × S)} {r : Exit × S} (h : thenC x k = .ok r) : (∃ s, x = .ok (.normal, s) ∧ k s = .ok r) ∨ (x = .ok r ∧ r.1 ≠ .normal) := by
 unfold thenC at h
 split at h
 ·exact .inl ⟨_, rfl, h⟩
 ·rename_i hno
  subst h;refine .inr ⟨rfl, fun e => ?_⟩;obtain ⟨e1, s1⟩ := r;simp only at e;subst e;exact hno s1 rfl
theorem range_ok (hn : n ≤ 1048576) (hgw : GW w0) (hck : CKok P gl GW ck) {ρ : Rh} {s s' : S} {a : Act} {w : World} {x : Exit} {g : Operand} {p : Array Nat} {asg body : Code} {f : FuncId} {as : List V} (hs : SR w0 gl n mb ρ s a w) (hp : ∀ q ∈ p.toList, q < n) (hct : s.c < 1048576)
  (hto : rangeTo (.yd s.c) ((opnd gl g).run s) = some (f, as)) (h : endRange s (ck (.fn f) as (hset s.h s.c (.loop n s.t p.toList asg body .ready none)) (s.c + 1) ro) = .ok (x, s')) :
  (Code.rangeFunc g p asg body).wpIn (Fr none) 0 P (fun x' a' w' => x' = x ∧ ∃ ρ', SR w0 gl n mb ρ' s' a' w' ∧ Ext ro s.c ρ w ρ' w' s'.c) a w := by
 have hg := opnd_ok hs g
 -- where it leads
 obtain ⟨caps, cs, hge, hcs, rfl⟩ : ∃ (caps : List V) (cs : List Value), a.eval g = .func (.func f) #[] cs.toArray ∧ VL w ρ caps cs ∧ as = .yd s.c :: caps := by
  unfold rangeTo at hto
  split at hto
  ·rename_i f' hv
   simp only [Option.some.injEq, Prod.mk.injEq] at hto;obtain ⟨rfl, rfl⟩ := hto;rw [hv] at hg;exact ⟨[], [], hg.lit_inv, .nil, rfl⟩
  ·rename_i f' cap hv
   simp only [Option.some.injEq, Prod.mk.injEq] at hto;obtain ⟨rfl, rfl⟩ := hto;rw [hv] at hg;generalize hu : a.eval g = u at hg
   cases hg with
   | @fn _ _ _ fs cs h1 h2 =>
    cases h1
    exact ⟨cap, cs, rfl, h2, rfl⟩
  ·cases hto
 unfold endRange at h
 split at h
 ·cases h
 ·rename_i v h2 c2 hcl
  obtain ⟨⟨fng, k1, k2, k3⟩, hcall⟩ := hck.fn f _ _ _ _ _ _ _ hcl;refine wpIn_rangeFunc ?_;intro fn _;obtain ⟨rc, hrc⟩ : ∃ rc : Loop, rc = { state := .ready, pending := none, fn, tmps := a.tmps, params := p, assign := asg, body, defers := w.heap.size } := ⟨_, rfl⟩;obtain ⟨w1, hw1⟩ : ∃ w1, w.alloc (.deferred (some [])) = w1 := ⟨_, rfl⟩
  have hsz1 : w1.heap.size = w.heap.size + 1 := by rw [← hw1]; simp
  have hfm1 : ∀ b, b < w.heap.size → w1.heap[b]? = w.heap[b]? := fun b hb => by rw [← hw1]; exact RowKit.Below.heap_alloc w _ b hb
  have hgr : Sim.Grow w w1 := by rw [← hw1]; exact Sim.Grow.alloc w _
  have hr1 : Rel w0 ρ s.h w1 := hs.rel.still (RowKit.Below.trans hs.rel.below (RowKit.Below.mono hgr hs.rel.below.size)) (by omega) hfm1;have he1 : Ext ro s.c ρ w ρ w1 s.c := ⟨fun _ _ h => h, by omega, still_shape hfm1, hgr.os, hgr.tape, hgr.output, fun b hb _ => hfm1 b hb, fun _ _ h => .inl h, Nat.le_refl _, fun h => h⟩;obtain ⟨w2, hw2⟩ : ∃ w2, w1.alloc (.loop rc) = w2 := ⟨_, rfl⟩
  have hL : w2.heap[w1.heap.size]? = some (.loop rc) := by rw [← hw2]; exact World.alloc_heap_new w1 _
  have hD1 : w1.heap[w.heap.size]? = some (.deferred (some [])) := by rw [← hw1]; exact World.alloc_heap_new w _
  have he2 : Ext ro s.c ρ w1 (upd ρ s.c ⟨w1.heap.size, 0⟩) w2 (s.c + 1) := by rw [← hw2]; exact ext_new hs.dom hct _
  have hr2 : Rel w0 (upd ρ s.c ⟨w1.heap.size, 0⟩) (hset s.h s.c (.loop n s.t p.toList asg body .ready none)) w2 := by
   rw [← hw2];refine rel_new hr1 hs.dom hct _ _ ?_;rw [hw2];refine ⟨rc, hL, rfl, by rw [hrc], by rw [hrc], by rw [hrc, Array.toArray_toList], by rw [hrc], by rw [hrc], by rw [hrc]; exact hs.size, hp, hn, fun i => ?_⟩;rw [hrc];exact he2.vr (he1.vr (hs.tmps i))
  have hD2 : w2.heap[w.heap.size]? = some (.deferred (some [])) := by rw [← hw2]; exact (RowKit.Below.heap_alloc w1 _ _ (by omega)).trans hD1
  have hrun : (Instr.enterLoop fn a.tmps p asg body (Fr none).round).run P w = .ok (w1.heap.size, [{ target := .collected w.heap.size, args := #[] }]) w2 := by
   rw [← hw2, hrc, ← hw1, World.size_alloc]; exact run_enterLoop_outer _ _ _ _ _
  have hd2 : DefOk mb (upd ρ s.c ⟨w1.heap.size, 0⟩) w2 ({ target := .collected w.heap.size, args := #[] } :: a.defers) := by
   have h0 := (hs.defers.ext he1).ext he2;refine ⟨List.nodup_cons.2 ⟨fun hm => ?_, h0.1⟩, fun d hd => ?_⟩
   ·obtain ⟨D, q1, _, q2, _⟩ := hs.defers.2 _ hm;have := (Array.getElem?_eq_some_iff.1 q2).1;simp only [Deferred.mk.injEq, Target.collected.injEq, and_true] at q1
    omega
   ·rcases List.mem_cons.1 hd with rfl | hd
    ·refine ⟨_, rfl, hs.mbl, hD2, fun id l hl e => ?_⟩;simp only [upd] at hl
     split at hl
     ·cases hl; dsimp only at e; omega
     ·obtain ⟨_, _, q, _⟩ := hs.rel.blk id l hl; omega
    ·exact h0.2 d hd
  have hsub : (upd ρ s.c ⟨w1.heap.size, 0⟩) s.c = some ⟨w1.heap.size, 0⟩ := by simp [upd]
  have hcl2 := hcall w0 _ w2 (.func (.yield w1.heap.size) #[] #[] :: cs) hgw hr2 (he2.dom hs.dom) (by omega) (fun g hg => he2.sub _ _ (hs.glob g hg)) (.cons (VR.yd hsub) (he2.vl (he1.vl hcs)))
  refine ⟨w1.heap.size, [{ target := .collected w.heap.size, args := #[] }], w2, { target := .fn (.func f) cs.toArray, args := #[.func (.yield w1.heap.size) #[] #[]] }, w2, f,
   #[.func (.yield w1.heap.size) #[] #[]] ++ cs.toArray, w2, hrun, ?_, fun _ _ => trivial, ?_, fr_room, callsIn_fr ?_⟩
  ·simp only [resolve, hge]
   simp [go_sem]
  ·simp [invoke, go_sem, Sim.run_callFunc k1 k2 k3]
  have harr : #[Value.func (.yield w1.heap.size) #[] #[]] ++ cs.toArray = (Value.func (.yield w1.heap.size) #[] #[] :: cs).toArray := by simp
  rw [harr];refine hcl2.mono ?_;rintro e w3 ⟨u, ρ3, rfl, g1, g2, g3⟩;have hl3 : ρ3 s.c = some ⟨w1.heap.size, 0⟩ := g2.sub _ _ hsub;have key : ∀ n' t' p' a' b' st' pd', h2.get s.c = some (.loop n' t' p' a' b' st' pd') → st' ≠ .busy → ∀ e', jumpX pd' = some e' → .ok (e', ⟨s.t, hset h2 s.c .dead, c2⟩) = Re.ok (x, s') →
    rangePost (Fr none) 0 P w1.heap.size (fun x' a' w' => x' = x ∧ ∃ ρ', SR w0 gl n mb ρ' s' a' w' ∧ Ext ro s.c ρ w ρ' w' s'.c) { a with defers := [{ target := .collected w.heap.size, args := #[] }] ++ a.defers } (.returned u) w3 := by
   intro n' t' p' a' b' st' pd' hgl hst e' he' hfin;simp only [Re.ok.injEq, Prod.mk.injEq] at hfin;obtain ⟨rfl, rfl⟩ := hfin;obtain ⟨bb, q1, q2, q3, q4⟩ := g1.blk s.c _ hl3;rw [hgl] at q1
   cases q1
   obtain ⟨r3, r4, r5, r6, r7, _⟩ := q3;dsimp only at r4;have hend := run_endLoop (P := P) r4 (by rw [r6]; exact hst);have htn := putObj_turn (o' := .loop { r3 with state := .exhausted }) r4 (by simp);have hr4 : Rel w0 ρ3 (hset h2 s.c .dead) (w3.putObj w1.heap.size (.loop { r3 with state := .exhausted })) := rel_turn' g1 htn hl3 hgl rfl hct trivial;have he4 : Ext ro s.c ρ w ρ3 (w3.putObj w1.heap.size (.loop { r3 with state := .exhausted })) c2 := ((he1.trans he2).trans g2).fresh_turn htn (by omega)
   have hsr : SR w0 gl n mb ρ3 ⟨s.t, hset h2 s.c .dead, c2⟩ { a with defers := [{ target := .collected w.heap.size, args := #[] }] ++ a.defers } (w3.putObj w1.heap.size (.loop { r3 with state := .exhausted })) :=
    ⟨(hd2.ext g2).turn htn hl3 rfl, hs.size, hr4, he4.dom hs.dom, he4.cap hs.top, fun g hg => he4.sub _ _ (hs.glob g hg), Nat.le_trans hs.mbl he4.size, fun i => he4.vr (hs.tmps i)⟩
   refine ⟨pd', w3.putObj w1.heap.size (.loop { r3 with state := .exhausted }), by rw [hend, r7], ?_⟩;unfold jumpX at he'
   split at he'
   ·cases he'; exact ⟨rfl, ρ3, hsr, he4⟩
   ·cases he'; exact wpIn_ret ⟨rfl, ρ3, hsr, he4⟩
   ·cases he'; exact wpIn_exit ⟨rfl, ρ3, hsr, he4⟩
   ·cases he'
  split at h
  ·cases h
  ·rename_i n' t' p' a' b' st' pd' hnb hgl
   split at h
   ·rename_i e' he'
    exact key _ _ _ _ _ _ _ hgl hnb e' he' h
   ·cases h
  ·cases h
theorem code_ok (mo : P.follows .mixedOrders = true) (hn : n ≤ 1048576) (hgw : GW w0) (hck : CKok P gl GW ck) (hdr : DrawOk P gl ck n mb w0 ro) (hwd : WildOk P gl ck n mb w0 ro) (rd : Bool) : ∀ c : Code, CodeOk P gl n mb w0 ro rd c ((compC P gl rd n ck c).run ro) := by
 intro c
 induction c with
 | skip => intro r hrd ρ s s' a w x hs h; cases h; exact wpIn_skip ⟨rfl, ρ, hs, Ext.refl⟩
 | label l => intro r hrd ρ s s' a w x hs h; cases h; exact wpIn_label ⟨rfl, ρ, hs, Ext.refl⟩
 | ret => intro r hrd ρ s s' a w x hs h; cases h; exact wpIn_ret ⟨rfl, ρ, hs, Ext.refl⟩
 | exit id => intro r hrd ρ s s' a w x hs h; cases h; exact wpIn_exit ⟨rfl, ρ, hs, Ext.refl⟩
 | region id ops draw =>
  intro r hrd ρ s s' a w x hs h
  cases draw with
  | false =>
   have h' : norm ((compOps P gl n ck ops ops.toList).run ro s) (fun s => Re.ok (Exit.normal, s)) = .ok (x, s') := h
   cases h1 : (compOps P gl n ck ops ops.toList).run ro s with
   | no why => rw [h1] at h'; cases h'
   | ok s1 =>
    rw [h1] at h'
    cases h'
    exact wpIn_region_list (steps_ok hn hgw hck _ hs h1 fun ρ' a' w' g1 g2 => ⟨rfl, ρ', g1, g2⟩)
  | true =>
   unfold compC at h
   cases hwl : wild ops with
   | true =>
    rw [hwl] at h;have h' : norm (wildC P gl n ck ops ro s) (fun s => Re.ok (Exit.normal, s)) = .ok (x, s') := h
    cases h1 : wildC P gl n ck ops ro s with
    | no why => rw [h1] at h'; cases h'
    | ok s1 =>
     rw [h1] at h'
     cases h'
     exact wpIn_region_any mo (hwd r ops _ ρ s _ a w hwl hs h1 fun ρ' a' w' g1 g2 => ⟨rfl, ρ', g1, g2⟩)
   | false =>
   rw [hwl] at h
   cases ho : orderOk ops with
   | false => rw [ho] at h; cases h
   | true =>
    rw [ho] at h;have h' : norm ((compOpsD P gl n ck ops ops.toList 0).run s.c ro s) (fun s => Re.ok (Exit.normal, s)) = .ok (x, s') := h
    cases h1 : (compOpsD P gl n ck ops ops.toList 0).run s.c ro s with
    | no why => rw [h1] at h'; cases h'
    | ok s1 =>
     rw [h1] at h'
     cases h'
     exact wpIn_region_any mo (hdr r ops _ ρ s _ a w ho hs h1 fun ρ' a' w' g1 g2 => ⟨rfl, ρ', g1, g2⟩)
 | seq p q ihp ihq =>
  intro r hrd ρ s s' a w x hs h;have h' : thenC ((compC P gl rd n ck p).run ro s) (fun s => (compC P gl rd n ck q).run ro s) = .ok (x, s') := h;refine wpIn_seq ?_
  rcases then_ok h' with ⟨s1, h1, h2⟩ | ⟨h1, h2⟩
  ·refine wpIn_mono (ihp r hrd hs h1) ?_;rintro e a1 w1 ⟨rfl, ρ1, g1, g2⟩;refine wpIn_mono (ihq r hrd g1 h2) ?_;rintro e a2 w2 ⟨rfl, ρ2, g3, g4⟩;exact ⟨rfl, ρ2, g3, g2.trans g4⟩
  ·refine wpIn_mono (ihp r hrd hs h1) ?_;rintro e a1 w1 ⟨rfl, ρ1, g1, g2⟩
   cases e <;> first | exact absurd rfl h2 | exact ⟨rfl, ρ1, g1, g2⟩
 | cond v p q ihp ihq =>
  intro r hrd ρ s s' a w x hs h;have h' : condC ((opnd gl v).run s) ((compC P gl rd n ck p).run ro s) ((compC P gl rd n ck q).run ro s) = .ok (x, s') := h;have hv := opnd_ok hs v;unfold condC at h'
  split at h'
  ·rename_i hb; rw [hb] at hv
   exact wpIn_cond_true hv.lit_inv (ihp r hrd hs h')
  ·rename_i hb; rw [hb] at hv
   exact wpIn_cond_false hv.lit_inv (ihq r hrd hs h')
  ·cases h'
 | block id p ih =>
  intro r hrd ρ s s' a w x hs h;have h' : blockC id ((compC P gl rd n ck p).run ro s) = .ok (x, s') := h;refine wpIn_block ?_
  cases h1 : (compC P gl rd n ck p).run ro s with
  | no why => rw [h1] at h'; cases h'
  | ok r =>
   obtain ⟨e, s1⟩ := r;rw [h1] at h';refine wpIn_mono (ih r hrd hs h1) ?_;rintro e' a1 w1 ⟨rfl, ρ1, g1, g2⟩
   cases e' with
   | exit id' =>
    simp only [blockC] at h';unfold Exit.inBlock;dsimp only
    cases hb : Nat.beq id' id with
    | true =>
     rw [hb] at h'; cases h';rw [if_pos (Nat.eq_of_beq_eq_true hb)];exact ⟨rfl, ρ1, g1, g2⟩
    | false =>
     rw [hb] at h'; cases h';rw [if_neg (fun e => by rw [e, Nat.beq_refl] at hb; cases hb)];exact ⟨rfl, ρ1, g1, g2⟩
   | _ => simp only [blockC] at h'; cases h'; exact ⟨rfl, ρ1, g1, g2⟩
 | loop p ih =>
  intro r hrd ρ s s' a w x hs h;have h' : loopN (fun s => (compC P gl rd n ck p).run ro s) 100000 s = .ok (x, s') := h;refine wpIn_loop_rounds 100000 ?_;have key : ∀ (m : Nat) {ρ1 : Rh} {s1 : S} {a1 : Act} {w1 : World}, SR w0 gl n mb ρ1 s1 a1 w1 → Ext ro s.c ρ w ρ1 w1 s1.c → loopN (fun s => (compC P gl rd n ck p).run ro s) m s1 = .ok (x, s') →
    Code.roundsIn (Fr r) 0 P p (fun x' a' w' => x' = x ∧ ∃ ρ', SR w0 gl n mb ρ' s' a' w' ∧ Ext ro s.c ρ w ρ' w' s'.c) m a1 w1 := by
   intro m
   induction m with
   | zero => intro ρ1 s1 a1 w1 _ _ h; cases h
   | succ m ihm =>
    intro ρ1 s1 a1 w1 hs1 he1 h;have h2 : thenC ((compC P gl rd n ck p).run ro s1) (loopN (fun s => (compC P gl rd n ck p).run ro s) m) = .ok (x, s') := h;rw [roundsIn_succ]
    rcases then_ok h2 with ⟨s2, h3, h4⟩ | ⟨h3, h4⟩
    ·refine wpIn_mono (ih r hrd hs1 h3) ?_;rintro e a2 w2 ⟨rfl, ρ2, g1, g2⟩;exact ihm g1 (he1.trans g2) h4
    ·refine wpIn_mono (ih r hrd hs1 h3) ?_;rintro e a2 w2 ⟨rfl, ρ2, g1, g2⟩
     cases e <;> first | exact absurd rfl h4 | exact ⟨rfl, ρ2, g1, he1.trans g2⟩
  exact key 100000 hs Ext.refl h'
 | scope p ih =>
  intro r0 hrd ρ s s' a w x hs h;have h' : scopeC ((compC P gl rd n ck p).run ro s) = .ok (x, s') := h;refine wpIn_scope ?_
  cases h1 : (compC P gl rd n ck p).run ro s with
  | no why => rw [h1] at h'; cases h'
  | ok r =>
   obtain ⟨e, s1⟩ := r;rw [h1] at h';refine wpIn_mono (ih r0 hrd hs h1) ?_;rintro e' a1 w1 ⟨rfl, ρ1, g1, g2⟩
   cases e' <;> first | (cases h'; done) | (cases h'; exact ⟨rfl, ρ1, g1, g2⟩)
 | rangeFunc g ps asg body iha ihb =>
  intro r hrd ρ s s' a w x hs h;unfold compC at h
  cases rd with
  | true => cases h
  | false =>
   obtain rfl := hrd rfl;dsimp only at h
   cases hp : ps.toList.all (fun p => Nat.blt p n) with
   | false => rw [hp] at h; cases h
   | true =>
    rw [hp, cond_true] at h;have hp : ∀ q ∈ ps.toList, q < n := fun q hq => Nat.le_of_ble_eq_true (List.all_eq_true.1 hp q hq);unfold rangeC at h
    cases hct : Nat.blt s.c top with
    | false => rw [hct] at h; cases h
    | true =>
     rw [hct, cond_true] at h;have hct : s.c < 1048576 := Nat.le_of_ble_eq_true hct
     split at h
     ·rename_i f as hto
      exact range_ok hn hgw hck hs hp hct hto h
     ·cases h
 | _ => intro r hrd ρ s s' a w x hs h; cases h
end
end Go.Ex
namespace Go.Ex
def Keep (ro c : Nat) (h h' : H) : Prop := ∀ id, id < ro → id < c → h'.get id = h.get id
theorem Keep.refl {ro c : Nat} {h : H} : Keep ro c h h := fun _ _ _ => rfl
theorem Keep.trans {ro c c1 : Nat} {h h1 h2 : H} (a : Keep ro c h h1) (b : Keep ro c1 h1 h2) (le : c ≤ c1) : Keep ro c h h2 := fun id i1 i2 => (b id i1 (Nat.lt_of_lt_of_le i2 le)).trans (a id i1 i2)
def KR (ro c : Nat) (h : H) : Option R → Prop
 | some (.val _ h' c') => Keep ro c h h' ∧ c ≤ c' ∧ (c ≤ 1048576 → c' ≤ 1048576)
 | _ => True
section
variable {P : Program} {h : H} {c ro : Nat}
theorem k_same {v : V} : KR ro c h (same h c v) := ⟨Keep.refl, Nat.le_refl _, fun h => h⟩
theorem k_sameO {v : Option V} : KR ro c h (sameO h c v) := by cases v <;> first | trivial | exact k_same
theorem k_plain {e : Sem Value} : KR ro c h (plain h c e) := by
 unfold plain
 cases e <;> first | trivial | (simp only [forceV_eq]; exact ⟨Keep.refl, Nat.le_refl _, fun h => h⟩)
theorem k_intV {k : IntKind} {n : Int} : KR ro c h (intV h c k n) := by unfold intV; rw [forceI_eq]; exact ⟨Keep.refl, Nat.le_refl _, fun h => h⟩
theorem k_boolV {b : Bool} : KR ro c h (boolV h c b) := by cases b <;> exact ⟨Keep.refl, Nat.le_refl _, fun h => h⟩
theorem k_new {b : B} {v : V} : KR ro c h (new h c b v) := by
 unfold new
 cases hc : Nat.blt c top with
 | false => trivial
 | true =>
  have hc : c < 1048576 := Nat.le_of_ble_eq_true hc;exact ⟨fun id _ h2 => by rw [hget_set hc, if_neg (by omega)], Nat.le_succ _, fun _ => hc⟩
theorem keep_set (hct : c ≤ 1048576) {id : Nat} {b : B} (hro : ro ≤ id) : Keep ro c h (hset h id b) := fun i h1 h2 => by
 unfold hset Tr.get Tr.set;rw [getP_setP, if_neg];intro e;have := path_inj (n := id) (m := i) (by omega) e.symm
 omega
theorem k_set (hct : c ≤ 1048576) {id : Nat} {b : B} {v : V} (hro : Nat.ble ro id = true) : KR ro c h (some (.val v (hset h id b) c)) := ⟨keep_set hct (Nat.le_of_ble_eq_true hro), Nat.le_refl _, fun h => h⟩
theorem andl {a b : Bool} (h : (a && b) = true) : a = true := by cases a <;> simp_all
theorem k_store (hct : c ≤ 1048576) {t : TypeId} {a x : V} : KR ro c h (oStore P h c ro t a x) := by
 unfold oStore;simp only [cond_eq_ite]
 repeat' split
 all_goals first | trivial | (rename_i hb; exact k_set hct (andl (andl (andl hb))))
theorem k_intOp {op : BinOp} {k : IntKind} {a b : Int} : KR ro c h (intOp h c op k a b) := by
 unfold intOp
 cases op <;> first | trivial | exact k_intV | exact k_boolV | exact k_plain | (cases eqI b 0 <;> first | trivial | exact k_intV)
theorem k_intOp2 {op : BinOp} {k k' : IntKind} {a b : Int} : KR ro c h (intOp2 h c op k k' a b) := by
 unfold intOp2
 cases op <;> first | exact k_plain | (dsimp only; cases decide (k = k') <;> first | trivial | (simp only [cond_true]; exact k_intOp))
theorem k_eqNil {op : BinOp} {t : TypeId} {b : Bool} : KR ro c h (eqNil P h c op t b) := by
 unfold eqNil
 split <;> first | trivial | exact k_boolV
theorem k_binop {op : BinOp} {t : TypeId} {x y : V} : KR ro c h (binop P h c op t x y) := by
 have ha : ∀ x y, KR ro c h (eqA P h c op t x y) := by
  intro x y;unfold eqA
  split <;> first | trivial | exact k_boolV
 unfold binop binop2
 repeat' split
 ·exact k_intOp2
 ·unfold strB; split <;> first | trivial | (simp only [forceV_eq]; exact ⟨Keep.refl, Nat.le_refl _, fun h => h⟩)
 ·unfold eqB; split <;> first | trivial | exact k_boolV
 ·exact k_eqNil
 ·exact ha _ _
 ·exact k_eqNil
 ·exact ha _ _
theorem k_appNew {k id off n m : Nat} {l : List V} : KR ro c h (appNew h c k id off n m l) := by
 unfold appNew
 split
 ·rw [forceN_eq]; exact k_new
 ·trivial
theorem k_appIn (hct : c ≤ 1048576) {k id off n m : Nat} {l : List V} : KR ro c h (appIn h c ro k id off n m l) := by
 unfold appIn
 split
 ·cases hc : (Nat.ble ro id && Nat.beq (off + n * k) _ && Nat.blt c top) with
  | false => trivial
  | true =>
   rw [cond_true, forceN_eq];simp only [Bool.and_eq_true] at hc;have h1 := Nat.le_of_ble_eq_true hc.1.1;have h2 : c < 1048576 := Nat.le_of_ble_eq_true hc.2;refine ⟨fun i g1 g2 => ?_, Nat.le_succ _, fun _ => h2⟩;rw [hget_set h2, if_neg (by omega)];exact keep_set hct h1 i g1 g2
 ·trivial
theorem k_append (hct : c ≤ 1048576) {t : TypeId} {s x : V} : KR ro c h (append P h c ro t s x) := by
 unfold append
 split
 ·trivial
 ·cases (Nat.beq _ 0 || Nat.beq _ 0) with
  | true => trivial
  | false =>
   rw [cond_false]
   split
   ·trivial
   ·cases Nat.beq _ 0 with
    | true => trivial
    | false =>
     rw [cond_false];unfold appS
     split
     ·cases small _ _ with
      | false => trivial
      | true => rw [cond_true, forceN_eq]; exact k_new
     ·cases (Nat.beq _ _ && small _ _) with
      | false => trivial
      | true =>
       rw [cond_true]
       split
       ·cases Nat.blt _ _ with
        | false => rw [cond_false]; exact k_appIn hct
        | true => rw [cond_true]; exact k_appNew
       ·exact k_appIn hct
     ·trivial
theorem k_mapUpdate (hct : c ≤ 1048576) {t : TypeId} {m k v : V} : KR ro c h (oMapUpdate P h c ro t m k v) := by
 unfold oMapUpdate;simp only [cond_eq_ite]
 repeat' split
 all_goals first | trivial | (rename_i hb _ _ _; exact k_set hct (by simp only [Bool.and_eq_true] at hb; exact hb.2)) | (rename_i hb _ _; exact k_set hct (by simp only [Bool.and_eq_true] at hb; exact hb.2))
theorem k_mapEntry (hct : c ≤ 1048576) {t : TypeId} {m k : V} : KR ro c h (oMapEntry P h c ro t m k) := by
 unfold oMapEntry
 split
 ·split
  ·rename_i es cl bs z _ _
   cases hb : (keyS P _ _ es && Nat.ble ro _) with
   | false => trivial
   | true =>
    rw [cond_true];simp only [Bool.and_eq_true] at hb
    split
    ·exact k_set hct hb.2
    ·split
     ·exact k_set hct hb.2
     ·trivial
    ·trivial
  ·trivial
 ·trivial
theorem k_entryStore (hct : c ≤ 1048576) {m s x : V} : KR ro c h (oEntryStore h c ro m s x) := by
 unfold oEntryStore
 split
 ·split
  ·cases hb : Nat.ble ro _ with
   | false => trivial
   | true =>
    rw [cond_true]
    split
    ·exact k_set hct hb
    ·trivial
  ·trivial
 ·trivial
theorem k_copyJ (hct : c ≤ 1048576) {k id off id2 off2 j : Nat} : KR ro c h (copyJ h c ro k id off id2 off2 j) := by
 unfold copyJ
 cases hc : (Nat.ble ro id && Nat.blt 0 j) with
 | false => trivial
 | true =>
  rw [cond_true];simp only [Bool.and_eq_true] at hc
  split
  ·cases Nat.ble _ _ with
   | false => trivial
   | true => rw [cond_true]; exact k_set hct hc.1
  ·trivial
theorem k_copyV (hct : c ≤ 1048576) {k id off n id2 off2 m : Nat} : KR ro c h (copyV h c ro k id off n id2 off2 m) := by
 unfold copyV
 cases Nat.ble n m <;> exact k_copyJ hct
theorem k_clearV (hct : c ≤ 1048576) {zs : List Value} {k id off n : Nat} : KR ro c h (clearV h c ro zs k id off n) := by
 unfold clearV
 cases hc : (Nat.ble ro id && Nat.blt 0 n && zs.all Value.oneCell' && Nat.beq zs.length k) with
 | false => trivial
 | true =>
  rw [cond_true];simp only [Bool.and_eq_true] at hc
  split
  ·cases Nat.ble _ _ with
   | false => trivial
   | true => rw [cond_true]; exact k_set hct hc.1.1.1
  ·trivial
theorem k_clear (hct : c ≤ 1048576) {as : List V} {ts : List TypeId} : KR ro c h (oClear P h c ro as ts) := by
 unfold oClear;simp only [cond_eq_ite]
 repeat' split
 all_goals first | trivial | exact k_same | exact k_clearV hct
theorem k_copy (hct : c ≤ 1048576) {as : List V} {ts : List TypeId} : KR ro c h (oCopy P h c ro as ts) := by
 unfold oCopy;simp only [cond_eq_ite]
 repeat' split
 all_goals first | trivial | exact k_same | exact k_copyV hct
theorem k_next (hct : c ≤ 1048576) {i : V} {str : Bool} : KR ro c h (oNext h c ro i str) := by
 unfold oNext nextS nextM;simp only [cond_eq_ite]
 repeat' split
 all_goals first | trivial | exact k_same | (rename_i hb; exact k_set hct (by simp only [Bool.and_eq_true] at hb; exact hb.2)) | (rename_i hb; rw [forceN_eq, forceN_eq]; exact k_set hct (by simp only [Bool.and_eq_true] at hb; exact hb.2))
theorem k_cutSl {id off k : Nat} {cap : Cp} {a b : Option Nat} : KR ro c h (cutSl h c id off k cap a b) := by
 unfold cutSl
 split
 ·rw [forceN_eq, forceN_eq]; exact k_same
 ·trivial
theorem k_slice {t : TypeId} {x : V} {lo hi mx : Option V} : KR ro c h (oSlice P h c t x lo hi mx) := by
 unfold oSlice slS slX slSl slNil slStr slArr;simp only [cond_eq_ite]
 repeat' split
 all_goals first | trivial | exact k_same | exact k_cutSl
theorem k_elem {e : TypeId} {x : V} {i : Int} {n : Nat} : KR ro c h (elemAt P h c e x i n) := by
 unfold elemAt;simp only [cond_eq_ite]
 repeat' split
 all_goals first | trivial | (rw [forceN_eq]; exact k_same)
theorem k_iop (hct : c ≤ 1048576) {op : Op} {ev : Ev} : KR ro c h (iop P h c ro op ev) := by
 cases op with
 | move x => exact k_same
 | assign x => exact k_same
 | pick b x y => show KR _ _ _ (oPick _ _ _ _ _); unfold oPick; split <;> first | trivial | exact k_same
 | alloc t => show KR _ _ _ (oAlloc _ _ _ _); unfold oAlloc; simp only [cond_eq_ite]; (repeat' split); all_goals first | trivial | exact k_new
 | box t x => show KR _ _ _ (oBox _ _ _); unfold oBox; simp only [cond_eq_ite]; split <;> first | trivial | exact k_new
 | load t a => show KR _ _ _ (oLoad _ _ _ _ _); unfold oLoad; (repeat' split); all_goals first | trivial | exact k_sameO
 | store t a x => exact k_store hct
 | nilCheck x => show KR _ _ _ (oNil _ _ _); unfold oNil; split <;> first | trivial | exact k_same
 | binOp op t x y t' => exact k_binop
 | unOp op t x => show KR _ _ _ (oUn _ _ _ _); unfold oUn; split <;> first | trivial | exact k_plain
 | convert s t x => show KR _ _ _ (oConv _ _ _ _ _ _); unfold oConv; split <;> first | trivial | exact k_intV
 | fieldAddr s x i => show KR _ _ _ (oFieldAddr _ _ _ _ _ _); unfold oFieldAddr; split <;> first | trivial | (rw [forceN_eq]; exact k_same)
 | field s x i => show KR _ _ _ (oField _ _ _ _ _ _); unfold oField; simp only [cond_eq_ite]; (repeat' split); all_goals first | trivial | exact k_sameO
 | indexAddr t x i => show KR _ _ _ (oIndexAddr _ _ _ _ _ _); unfold oIndexAddr; simp only [cond_eq_ite]; (repeat' split); all_goals first | trivial | exact k_elem
 | index t x i => show KR _ _ _ (oIndex _ _ _ _ _ _); unfold oIndex idxS; (repeat' split); all_goals first | trivial | exact k_sameO | exact k_intV
 | build t ps => show KR _ _ _ (oBuild _ _ _ _ _); unfold oBuild; simp only [cond_eq_ite]; (repeat' split); all_goals first | trivial | exact k_same
 | buildSlice t n ps => show KR _ _ _ (oBuildSlice _ _ _ _ _ _); unfold oBuildSlice; simp only [cond_eq_ite]; (repeat' split); all_goals first | trivial | exact k_new
 | makeFunc f first cap => show KR _ _ _ (oMakeFunc _ _ _ _ _); unfold oMakeFunc; split <;> first | trivial | exact k_same
 | makeMap t r => show KR _ _ _ (oMakeMap _ _ _ _ _); unfold oMakeMap; split <;> first | trivial | exact k_new
 | lookup t m k ok => show KR _ _ _ (oLookup _ _ _ _ _ _ _); unfold oLookup found; simp only [cond_eq_ite]; (repeat' split); all_goals first | trivial | exact k_same
 | mapUpdate t m k v => exact k_mapUpdate hct
 | insert t m k v => exact k_mapUpdate hct
 | mapEntry t m k => exact k_mapEntry hct
 | entryStore t m s x => exact k_entryStore hct
 | range t x => show KR _ _ _ (oRange _ _ _ _ _); unfold oRange; (repeat' split); all_goals first | trivial | exact k_new
 | next i str => exact k_next hct
 | entry i => show KR _ _ _ (oEntry _ _ _); unfold oEntry; simp only [cond_eq_ite]; (repeat' split); all_goals first | trivial | exact k_same
 | makeSlice t l cp => show KR _ _ _ (oMakeSlice _ _ _ _ _ _); unfold oMakeSlice; simp only [cond_eq_ite]; (repeat' split); all_goals first | trivial | (rw [forceN_eq]; exact k_new)
 | slice t x lo hi mx => exact k_slice
 | extract x i => show KR _ _ _ (oExtract _ _ _ _); unfold oExtract; split <;> first | trivial | exact k_sameO
 | call cl =>
  obtain ⟨callee, as, ts⟩ := cl
  cases callee with
  | invoke _ _ => trivial
  | value f => show KR _ _ _ (oCall _ _); unfold oCall; split <;> trivial
  | builtin b =>
   show KR _ _ _ (oBuiltin _ _ _ _ _ _ _)
   cases b with
   | len => show KR _ _ _ (oLen _ _ _ _ _); unfold oLen lenV; (repeat' split); all_goals first | trivial | exact k_same | exact k_intV
   | append => show KR _ _ _ (oAppend _ _ _ _ _ _); unfold oAppend appNil; simp only [cond_eq_ite]; (repeat' split); all_goals first | trivial | exact k_same | exact k_append hct
   | max => show KR _ _ _ (oMM _ _ _ _); unfold oMM; split <;> first | trivial | exact k_intV
   | min => show KR _ _ _ (oMM _ _ _ _); unfold oMM; split <;> first | trivial | exact k_intV
   | copy => exact k_copy hct
   | clear => exact k_clear hct
   | _ => trivial
 | _ => trivial
end
end Go.Ex
namespace Go.Ex
section
variable {P : Program} {gl : Nat → Bool} {ck : CallK} {n ro : Nat} {ops : Array Oper}
def Kp (ro : Nat) (s : S) (s' : S) : Prop := Keep ro s.c s.h s'.h ∧ s.c ≤ s'.c ∧ s'.c ≤ 1048576
def CKK (ck : CallK) : Prop := ∀ f as h c ro v h' c', ck f as h c ro = .ok (v, h', c') → c ≤ 1048576 → Keep ro c h h' ∧ c ≤ c' ∧ c' ≤ 1048576
theorem Kp.refl {s : S} (h : s.c ≤ 1048576) : Kp ro s s := ⟨Keep.refl, Nat.le_refl _, h⟩
theorem Kp.trans {a b c : S} (h : Kp ro a b) (k : Kp ro b c) : Kp ro a c := ⟨h.1.trans k.1 h.2.1, Nat.le_trans h.2.1 k.2.1, k.2.2⟩
theorem put_k {d : Option Nat} {pos : String} {s s' : S} {v : V} {h : H} {c : Nat} (hp : compPut n d pos s v h c = .ok s') : s'.h = h ∧ s'.c = c := by
 unfold compPut at hp
 cases d with
 | none => cases hp; exact ⟨rfl, rfl⟩
 | some d =>
  dsimp only at hp
  cases hd : Nat.blt d n with
  | false => rw [hd] at hp; cases hp
  | true => rw [hd, cond_true] at hp; cases hp; exact ⟨rfl, rfl⟩
theorem stepR_k (hck : CKK ck) {o : Oper} {s s' : S} (hc : s.c ≤ 1048576) (h : stepR n ck o ro s ((comp P gl o.op).run ro s) = .ok s') : Kp ro s s' := by
 rw [comp_eq] at h;have hk := k_iop (P := P) (h := s.h) (c := s.c) (ro := ro) (op := o.op) (ev := fun x => (opnd gl x).run s) hc;unfold stepR at h
 cases hi : iop P s.h s.c ro o.op (fun x => (opnd gl x).run s) with
 | none => rw [hi] at h; cases h
 | some r =>
  rw [hi] at h hk
  cases r with
  | val v h' c' =>
   obtain ⟨g1, g2⟩ := put_k h;obtain ⟨k1, k2, k3⟩ := hk;exact ⟨by rw [g1]; exact k1, by rw [g2]; exact k2, by rw [g2]; exact k3 hc⟩
  | call f as =>
   dsimp only at h
   cases hcl : ck (.fn f) as s.h s.c ro with
   | no why => rw [hcl] at h; cases h
   | ok vhc =>
    obtain ⟨v, h', c'⟩ := vhc;rw [hcl] at h;obtain ⟨g1, g2⟩ := put_k h;obtain ⟨k1, k2, k3⟩ := hck (.fn f) as _ _ _ _ _ _ hcl hc;exact ⟨by rw [g1]; exact k1, by rw [g2]; exact k2, by rw [g2]; exact k3⟩
  | yield f as =>
   dsimp only at h
   cases hcl : ck (.yd f) as s.h s.c ro with
   | no why => rw [hcl] at h; cases h
   | ok vhc =>
    obtain ⟨v, h', c'⟩ := vhc;rw [hcl] at h;obtain ⟨g1, g2⟩ := put_k h;obtain ⟨k1, k2, k3⟩ := hck (.yd f) as _ _ _ _ _ _ hcl hc;exact ⟨by rw [g1]; exact k1, by rw [g2]; exact k2, by rw [g2]; exact k3⟩
theorem step_k (hck : CKK ck) {o : Oper} {s s' : S} (hc : s.c ≤ 1048576) (h : (compOp P gl n ck ops o).run ro s = .ok s') : Kp ro s s' := by
 unfold compOp at h
 cases hg : o.guard with
 | none => rw [hg] at h; exact stepR_k hck hc h
 | some jw =>
  rw [hg] at h;dsimp only at h;unfold guarded at h
  split at h
  ·cases h
  ·obtain ⟨g1, g2⟩ := put_k h;exact ⟨by rw [g1]; exact Keep.refl, by rw [g2]; exact Nat.le_refl _, by rw [g2]; exact hc⟩
  ·exact stepR_k hck hc h
end
end Go.Ex
namespace Go.Ex
section
variable {P : Program} {gl : Nat → Bool} {ck : CallK} {n ro : Nat} {ops : Array Oper}
theorem stepE_inv {j : Nat} {o : Oper} {e e1 : En} (h : stepE P gl n ck ops ro j o e = some e1) : (compOp P gl n ck ops o).run ro e.s = .ok e1.s ∧ e1.D = Nat.lor e.D (2 ^ j) ∧ putA o.dst e1.s.t e.tw (fun d => e1.s.t.get d) = some e1.tw ∧
  ((tame o = true ∧ e1.hw = e.hw) ∨ (tame o = false ∧ ∃ x id b, wrOf o = some x ∧ idOf ((opnd gl x).run e.s) = some id ∧ id < 1048576 ∧ e1.s.h.get id = some b ∧ e1.hw = insA id b e.hw)) := by
 unfold stepE at h
 cases h1 : (compOp P gl n ck ops o).run ro e.s with
 | no w => rw [h1] at h; cases h
 | ok s1 =>
  rw [h1] at h;dsimp only at h
  cases h2 : putA o.dst s1.t e.tw (fun d => s1.t.get d) with
  | none => rw [h2] at h; cases h
  | some tw =>
   rw [h2] at h;dsimp only at h
   cases h3 : tame o with
   | true =>
    rw [h3] at h
    cases h
    exact ⟨rfl, rfl, h2, .inl ⟨rfl, rfl⟩⟩
   | false =>
    rw [h3] at h;dsimp only at h
    split at h
    ·cases h
    ·rename_i x hx
     split at h
     ·cases h
     ·rename_i id hid
      split at h
      ·rename_i b hlt hb
       cases h
       exact ⟨rfl, rfl, h2, .inr ⟨rfl, x, id, b, hx, hid, Nat.le_of_ble_eq_true hlt, hb, rfl⟩⟩
      ·cases h
inductive Built (P : Program) (gl : Nat → Bool) (ck : CallK) (n ro : Nat) (ops : Array Oper) (s0 : S) : En → Prop
 | start : Built P gl ck n ro ops s0 ⟨0, s0, [], []⟩
 | step {e e1 : En} {j : Nat} {o : Oper} (h : Built P gl ck n ro ops s0 e) (ho : ops[j]? = some o) (hs : stepE P gl n ck ops ro j o e = some e1) : Built P gl ck n ro ops s0 e1
theorem stepsE_ok {j : Nat} {o : Oper} : ∀ {T T' : List En}, stepsE P gl n ck ops ro j o T = some T' → ∀ e1 ∈ T', ∃ e ∈ T, stepE P gl n ck ops ro j o e = some e1
 | [], _, h, e1, he => by cases h; cases he
 | e :: T, T', h, e1, he => by
  unfold stepsE at h
  split at h
  ·split at h
   ·cases h
   ·rename_i e2 h2
    split at h
    ·cases h
    ·rename_i T2 h3
     cases h
     rcases List.mem_cons.1 he with rfl | he
     ·exact ⟨e, List.mem_cons_self, h2⟩
     ·obtain ⟨e0, g1, g2⟩ := stepsE_ok h3 e1 he;exact ⟨e0, List.mem_cons_of_mem _ g1, g2⟩
  ·obtain ⟨e0, g1, g2⟩ := stepsE_ok h e1 he;exact ⟨e0, List.mem_cons_of_mem _ g1, g2⟩
theorem buildE_ok {s0 : S} : ∀ (l : List Oper) (j : Nat) {T T2 : List En}, buildE P gl n ck ops ro l j T = some T2 → (∀ i o, l[i]? = some o → ops[j + i]? = some o) → (∀ e ∈ T, Built P gl ck n ro ops s0 e) → (∀ e ∈ T2, Built P gl ck n ro ops s0 e) ∧ ∃ X, T2 = T ++ X
 | [], j, T, T2, h, _, hb => by cases h; exact ⟨hb, [], by simp⟩
 | o :: l, j, T, T2, h, ho, hb => by
  unfold buildE at h
  split at h
  ·cases h
  ·rename_i T' h1
   obtain ⟨g1, g2⟩ := buildE_ok l (j + 1) h (fun i o' hi => by rw [show j + 1 + i = j + (i + 1) by omega]; exact ho (i + 1) o' (by simpa using hi)) (fun e he => by
    rcases List.mem_append.1 he with he | he
    ·exact hb e he
    ·obtain ⟨e0, q1, q2⟩ := stepsE_ok h1 e he
     exact .step (hb e0 q1) (by simpa using ho 0 o rfl) q2)
   obtain ⟨X, hX⟩ := g2;exact ⟨g1, T' ++ X, by rw [hX, List.append_assoc]⟩
theorem findEn_ok {D : Nat} : ∀ {T : List En} {e : En}, findEn D T = some e → e ∈ T ∧ e.D = D
 | [], _, h => by cases h
 | e0 :: T, e, h => by
  unfold findEn at h
  split at h
  ·rename_i hq; cases h; exact ⟨List.mem_cons_self, Nat.eq_of_beq_eq_true hq⟩
  ·obtain ⟨g1, g2⟩ := findEn_ok h; exact ⟨List.mem_cons_of_mem _ g1, g2⟩
theorem wildC_inv {s s' : S} (h : wildC P gl n ck ops ro s = .ok s') : ∃ T e, (∀ e ∈ T, Built P gl ck n ro ops s e) ∧ findEn 0 T = some ⟨0, s, [], []⟩ ∧ e ∈ T ∧ findEn (2 ^ ops.size - 1) T = some e ∧ e.s = s' ∧ chkE P gl n ck ops ro T T = true := by
 unfold wildC at h
 split at h
 ·cases h
 ·rename_i T hT
  split at h
  ·cases h
  ·rename_i e he
   split at h
   ·rename_i hc
    cases h
    obtain ⟨g1, g2⟩ := buildE_ok (s0 := s) ops.toList 0 hT (fun i o hi => by simpa using hi) (fun e he => by
     rw [List.mem_singleton.1 he]; exact .start)
    obtain ⟨X, rfl⟩ := g2;exact ⟨_, e, g1, rfl, (findEn_ok he).1, he, rfl, hc⟩
   ·cases h
theorem Built.k (hck : CKK ck) {s0 : S} (hc : s0.c ≤ 1048576) : ∀ {e : En}, Built P gl ck n ro ops s0 e → Kp ro s0 e.s := by
 intro e h
 induction h with
 | start => exact Kp.refl hc
 | step h ho hs ih =>
  obtain ⟨h1, _⟩ := stepE_inv hs;exact ih.trans (step_k hck ih.2.2 h1)
theorem wild_k (hck : CKK ck) {s s' : S} (hc : s.c ≤ 1048576) (h : wildC P gl n ck ops ro s = .ok s') : Kp ro s s' := by
 obtain ⟨T, e, h1, _, h2, _, rfl, _⟩ := wildC_inv h;exact (h1 e h2).k hck hc
end
end Go.Ex
