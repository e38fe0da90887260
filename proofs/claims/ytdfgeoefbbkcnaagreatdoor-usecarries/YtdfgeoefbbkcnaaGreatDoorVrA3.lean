/-
  What is proved: lemmas and contracts of functions on the way to the law useCarries (part 3).
-/
import Derived.Test.YtdfgeoefbbkcnaaGreatDoorVrA2
set_option linter.unusedSectionVars false
set_option linter.unusedSimpArgs false
set_option linter.unusedVariables false
set_option linter.unnecessarySimpa false
set_option linter.deprecated false
namespace Go.Ex
open Go.Sim (tyK fieldK zeroK placesK appK flatK setAt z7 zg zj ja jx ve jf jg toList_inj appK_spec z5)
section
variable {P : Program} {w0 : World} {ro c : Nat} {ρ : Rh} {h : H} {w : World}
abbrev appS' (t ty : TypeId) (u v : Value) : Sem Value := Builtin.append_ #[t, t] ty #[u, v]
theorem qbf (hr : Rel w0 ρ h w) {id off m : Nat} {l : Loc} {lst : List V} (hl : ρ id = some l) (hs : slCells h id off m = some lst) :
  ∃ us : List Value, VC w ρ lst us ∧ us.length = m ∧ ∀ j u, us[j]? = some u → w.cell? ⟨l.b, l.o + off + j, none⟩ = some u := by
 unfold slCells at hs
 split at hs
 ·rename_i all hb
  obtain ⟨us, t, fr, h1, h2, h3⟩ := wx hr hl hb
  cases hc : Nat.ble (off + m) all.length with
  | false => rw [hc] at hs; cases hs
  | true =>
   rw [hc, cond_true] at hs;simp only [Option.some.injEq] at hs;subst hs;have hle := Nat.le_of_ble_eq_true hc;have h4 := (h3.drop off).take m;refine ⟨_, h4, by rw [h4.length, List.length_take, List.length_drop]; omega, fun j u hj => ?_⟩
   have : ((us.toList.drop l.o).take all.length)[off + j]? = some u := by
    rw [List.getElem?_take] at hj
    split at hj
    ·rwa [List.getElem?_drop] at hj
    ·cases hj
   have := qak h1 this
   rwa [show l.o + (off + j) = l.o + off + j by omega] at this
 ·cases hs
theorem qo2 (hr : Rel w0 ρ h w) {k m : Nat} {x : V} {v : Value} {lst : List V} (hx : VR w ρ x v) (hs : srcOf h k x = some (lst, m)) (hm : m ≠ 0) (hk : k ≠ 0) :
  ∃ news : List Value, VC w ρ lst news ∧ news.length = m * k ∧ ∃ b o cp, v = .slice (some ⟨b, o, none⟩) m cp ∧ ∀ j u, news[j]? = some u → w.cell? ⟨b, o + j, none⟩ = some u := by
 unfold srcOf at hs
 split at hs
 ·rename_i id off n k' cap
  cases hkk : Nat.beq k k' with
  | false => rw [hkk] at hs; cases hs
  | true =>
   have := Nat.eq_of_beq_eq_true hkk;subst this;rw [hkk, cond_true] at hs
   split at hs
   ·rename_i l' hl'
    simp only [Option.some.injEq, Prod.mk.injEq] at hs;obtain ⟨rfl, rfl⟩ := hs
    cases hx with
    | @sl _ _ _ _ cap' p _ l hl h1 h2 h3 h4 =>
     obtain ⟨us, g1, g2, g3⟩ := qbf hr hl hl';refine ⟨us, g1, g2, l.b, p, cap', rfl, ?_⟩
     rcases h4 with h4 | ⟨h4, _⟩
     ·omega
     ·rw [h4]; exact g3
   ·cases hs
 ·cases hs
theorem qr2 {l : List V} {us : List Value} (h : VC w ρ l us) : VC w.drew ρ l us := VC.mono (w := w) (w' := w.drew) (fun _ _ h => h) (fun _ vs _ fr h => ⟨vs, fr, h, rfl⟩) h
theorem qd2 (hr : Rel w0 ρ h w) (hd : Dom ρ c) (hc : c < 1048576) {e : TypeId} {k nm cp : Nat} {lst : List V} {us rest : List Value} (hv : VC w ρ lst us) (hlen : us.length = nm * k) (h1 : nm ≤ cp) (h2 : cp ≤ maxLen) (h3 : us.length + rest.length = cp * k) :
  ∃ ρ', Rel w0 ρ' (hset h c (.cells lst)) (w.drew.alloc (.cells (us ++ rest).toArray e)) ∧ Ext ro c ρ w ρ' (w.drew.alloc (.cells (us ++ rest).toArray e)) (c + 1) ∧
   VR (w.drew.alloc (.cells (us ++ rest).toArray e)) ρ' (.sl c 0 nm k none) (.slice (some ⟨w.heap.size, 0, none⟩) nm cp) := by
 have hr' := qn6 hr;have hnew := heap_alloc_new w.drew (.cells (us ++ rest).toArray e);refine ⟨upd ρ c ⟨w.heap.size, 0⟩, qlk hr' hd hc _ _ ⟨(us ++ rest).toArray, e, hnew, ?_, ?_⟩, (qn7 (ro := ro)).trans (qg9 hd hc _), .sl (l := ⟨w.heap.size, 0⟩) (vv _) h1 h2 (.inl rfl) (.inr ⟨rfl, _, e, _, hnew, ?_⟩)⟩
 ·have := hv.length; simp; omega
 ·have hl := hv.length;simp only [List.drop_zero];rw [← hl, List.take_left];exact qpr hd (qr2 hv)
 ·simp; omega
theorem qo3 (hr : Rel w0 ρ h w) (hd : Dom ρ c) {t ty : TypeId} {s x : V} {u v : Value} (hs : VR w ρ s u) (hx : VR w ρ x v) : Good P w0 ro c ρ w (vS (appS' t ty u v)) (append P h c ro t s x) := by
 unfold append
 split
 ·trivial
 ·rename_i e k by_ ha
  obtain ⟨i, z, t1, t2, t3, t4, t5, t6⟩ := appK_spec ha
  cases hz : (Nat.beq k 0 || Nat.beq by_ 0) with
  | true => trivial
  | false =>
   rw [cond_false];simp only [Bool.or_eq_false_iff] at hz
   have hk0 : k ≠ 0 := fun h => by rw [h] at hz; exact absurd hz.1 (by decide)
   have hb0 : by_ ≠ 0 := fun h => by rw [h] at hz; exact absurd hz.2 (by decide)
   cases hsrc : srcOf h k x with
   | none => trivial
   | some lm =>
    obtain ⟨lst, m⟩ := lm;dsimp only
    cases hm : Nat.beq m 0 with
    | true => trivial
    | false =>
     rw [cond_false]
     have hm0 : m ≠ 0 := fun h => by rw [h] at hm; exact absurd hm (by decide)
     obtain ⟨news, n1, n2, b, o, cp, rfl, n3⟩ := qo2 hr hx hsrc hm0 hk0
     have hadd : ∀ j u, news[j]? = some u → w.cell? ((⟨b, o, none⟩ : Addr).add j) = some u := fun j u hj => by rw [Addr.add_lit]; exact n3 j u hj
     unfold appS
     split
     ·-- the nil slice
      have := hs.lit_inv; subst this
      cases hsm : small m by_ with
      | false => trivial
      | true =>
       have hsm := Nat.le_of_ble_eq_true hsm;rw [cond_true, zf];unfold new
       cases hct : Nat.blt c top with
       | false => trivial
       | true =>
        rw [cond_true];have hmm : m ≤ m * by_ := Nat.le_mul_of_pos_right _ (by omega)
        have hml : m ≤ maxLen := by unfold maxLen; omega
        have hrun := run_append_nil (P := P) w t ty e i z t1 t2 t3 ⟨b, o, none⟩ m cp news (by rw [t4]; exact n2) hadd (by omega) (by omega) (by rw [t5]; omega);show UponE _ _ _ _ _ _ _ _ _;rw [qb6 hrun]
        have hz1 : (news.toArray ++ Builtin.zeroCells z.cells (grownCap w m 0 e - m)) = (news ++ (Builtin.zeroCells z.cells (grownCap w m 0 e - m)).toList).toArray := by simp
        rw [hz1];refine qd2 hr hd (Nat.le_of_ble_eq_true hct) n1 n2 (grownCap_ge _ _ _ _) (grownCap_le_maxLen _ _ _ _ hml) ?_;rw [n2, Array.length_toList, size_zeroCells, t6, ← Nat.add_mul]
        congr 1
        have := grownCap_ge w m 0 e
        omega
     ·rename_i id off n k' cap
      cases hcnd : (Nat.beq k k' && small (n + m) by_) with
      | false => trivial
      | true =>
       rw [cond_true];simp only [Bool.and_eq_true] at hcnd;have hkk := Nat.eq_of_beq_eq_true hcnd.1;subst hkk;have hsm := Nat.le_of_ble_eq_true hcnd.2;have hmm : n + m ≤ (n + m) * by_ := Nat.le_mul_of_pos_right _ (by omega)
       have hml : n + m ≤ maxLen := by unfold maxLen; omega
       cases hs with
       | @sl _ _ _ _ cap' p _ l hl h1 h2 h3 h4 =>
        -- the grown row
        have grow : ∀ (hh : H) (old : List V) (olds : List Value), Rel w0 ρ hh w → VC w ρ old olds → olds.length = n * k → (∀ j u, olds[j]? = some u → w.cell? ⟨l.b, p + j, none⟩ = some u) → cap' < n + m → c < 1048576 →
          UponE w0 ro c ρ w (.sl c 0 (n + m) k none) (hset hh c (.cells (old ++ lst))) (c + 1) ((vS (appS' t ty (.slice (some ⟨l.b, p, none⟩) n cap') (.slice (some ⟨b, o, none⟩) m cp))).run P w) := by
         intro hh old olds hrr ho1 ho2 ho3 hlt hct;have hrun := run_append_grow (P := P) w t ty e i z t1 t2 t3 ⟨l.b, p, none⟩ n cap' olds (by rw [t4]; exact ho2) (fun j u hj => by rw [Addr.add_lit]; exact ho3 j u hj) ⟨b, o, none⟩ m cp news (by rw [t4]; exact n2) hadd hlt (by omega) (by rw [t5]; exact growslice_fits hlt hsm);rw [qb6 hrun]
         have hz1 : (olds.toArray ++ news.toArray ++ Builtin.zeroCells z.cells (grownCap w (n + m) cap' e - (n + m))) = ((olds ++ news) ++ (Builtin.zeroCells z.cells (grownCap w (n + m) cap' e - (n + m))).toList).toArray := by simp
         rw [hz1];refine qd2 hrr hd hct (ho1.append n1) (by rw [List.length_append, ho2, n2, Nat.add_mul]) (grownCap_ge _ _ _ _) (grownCap_le_maxLen _ _ _ _ hml) ?_;rw [List.length_append, ho2, n2, Array.length_toList, size_zeroCells, t6, ← Nat.add_mul, ← Nat.add_mul]
         congr 1
         have := grownCap_ge w (n + m) cap' e
         omega
        have hpo : ∀ j u, (n = 0 → False) → w.cell? ⟨l.b, l.o + off + j, none⟩ = some u → w.cell? ⟨l.b, p + j, none⟩ = some u := by
         intro j u hn hju
         rcases h4 with h4 | ⟨h4, _⟩
         ·exfalso; exact hn (by omega)
         ·rw [h4]; exact hju
        cases cap with
        | some cp' =>
         dsimp only
         have hcc : cp' = cap' := by rcases h3 with h3 | h3 <;> simp at h3; exact h3
         subst hcc
         cases hlt : Nat.blt cp' (n + m) with
         | false => trivial
         | true =>
          have hlt := Nat.le_of_ble_eq_true hlt;rw [cond_true];unfold appNew
          cases hsl : slCells h id off (n * k) with
          | none => trivial
          | some old =>
           dsimp only;rw [zf];unfold new
           cases hct : Nat.blt c top with
           | false => trivial
           | true =>
            rw [cond_true];obtain ⟨olds, o1, o2, o3⟩ := qbf hr hl hsl;refine grow h old olds hr o1 o2 (fun j u hj => hpo j u (fun hn => ?_) (o3 j u hj)) hlt (Nat.le_of_ble_eq_true hct);subst hn;have : olds = [] := List.eq_nil_of_length_eq_zero (by omega);rw [this] at hj; simp at hj
        | none =>
         dsimp only;unfold appIn
         split
         ·rename_i all hg
          cases hcnd2 : (Nat.ble ro id && Nat.beq (off + n * k) all.length && Nat.blt c top) with
          | false => trivial
          | true =>
           rw [cond_true, zf];simp only [Bool.and_eq_true] at hcnd2;have hro := Nat.le_of_ble_eq_true hcnd2.1.1;have hall := Nat.eq_of_beq_eq_true hcnd2.1.2;have hct : c < 1048576 := Nat.le_of_ble_eq_true hcnd2.2;have hid := hd id l hl;obtain ⟨us, ty', fr, k1, k2, k3⟩ := wx hr hl (show B.read (h.get id) = some all by rw [hg]; rfl)
           have hold : VC w ρ (all.drop off) ((us.toList.drop (l.o + off)).take (n * k)) := by
            have := k3.drop off;rw [List.drop_take, List.drop_drop, show all.length - off = n * k by omega] at this;exact this
           have hol : ((us.toList.drop (l.o + off)).take (n * k)).length = n * k := by
            rw [hold.length, List.length_drop]; omega
           by_cases hfit : n + m ≤ cap'
           ·-- in place
            obtain ⟨hp, vs, t', fr', q1, q2⟩ := h4.resolve_left (by omega);rw [k1] at q1
            cases q1
            obtain ⟨bb, r1, r2, r3, r4⟩ := hr.blk id l hl
            have : bb = .cells all := by rw [hg] at r1; exact (Option.some.inj r1).symm
            subst this;obtain ⟨us', ty'', e1, _, _⟩ := r3;rw [k1] at e1
            cases e1
            have hmk : (n + m) * k ≤ cap' * k := Nat.mul_le_mul_right _ hfit;rw [Nat.add_mul] at hmk
            have hroom : l.o + off + n * k + news.length ≤ us.size := by rw [n2]; omega
            obtain ⟨w', cur', s1, s2, s3, s4, s5, s6, s7, s8⟩ := z5 (P := P) l.b (l.o + off + n * k) _ news 0 us w k1 (by simpa using hroom) n1.one
            have hcs : cur'.size = us.size := by
             rw [← Array.length_toList, s3, ← Array.length_toList (xs := us)];simp only [setAt, List.length_append, List.length_take, List.length_drop, Array.length_toList]
             omega
            have htn : Turn w l.b w' := ⟨s5, s6, s7, s8, s4, fun vs t fr hh => by
             rw [k1] at hh; cases hh; exact ⟨cur', _, s2, hcs⟩⟩
            have hf := run_firstCells_some (P := P) w i.size m ⟨b, o, none⟩ m cp news (by rw [t4]; exact n2) hadd
            have hrun : (appS' t ty (.slice (some ⟨l.b, p, none⟩) n cap') (.slice (some ⟨b, o, none⟩) m cp)).run P w = .ok (.slice (some ⟨l.b, p, none⟩) (n + m) cap') w' := by
             subst hp;rw [t4] at hf
             simp [appS', Builtin.append_, run_underlying t1, sizeOf, typeInfo, t2, Builtin.lenOf, hfit, t4, hf, Addr.add_lit, s1]
            show UponE _ _ _ _ _ _ _ _ _;rw [qb6 hrun];have hext := qlq (c := c) (o' := l.o + off) hd hct htn hl hro;refine ⟨upd ρ c ⟨l.b, l.o + off⟩, qlp hr hd hct htn hl hg rfl rfl ⟨cur', _, s2, ?_, ?_⟩, hext, .sl (l := ⟨l.b, l.o + off⟩) (vv _) hfit h2 (.inl rfl) (.inr ⟨by rw [hp]; rfl, cur', _, _, s2, by rw [hcs]; exact q2⟩)⟩
            ·have h7 := n1.length;simp only [List.length_append, List.length_drop];rw [hcs]; omega
            ·have h7 := n1.length
             have e2 : (all.drop off ++ lst).length = n * k + news.length := by
              simp only [List.length_append, List.length_drop]; omega
             rw [e2, s3, Nat.add_zero];have := Sim.take_drop_set (cur := us.toList) (o := l.o + off) (a := n * k) (news := news) rfl (by rw [Array.length_toList]; exact hroom);simp only at this ⊢;rw [this];exact VC.mono hext.sub hext.shape (hold.append n1)
           ·-- no room
            have hk := qn8 hr (id := id) (by omega);refine grow (hset h id .dead) (all.drop off) _ hk hold hol (fun j u hj => hpo j u (fun hn => ?_) ?_) (by omega) hct
            ·subst hn
             simp at hj
            ·have : ((us.toList.drop (l.o + off)).take (n * k))[j]? = some u := hj;exact qak k1 this
         ·trivial
     ·trivial
end
end Go.Ex
namespace Go.Ex
open Go.Sim (tyK fieldK zeroK placesK appK flatK setAt z7 zg zj ja jx ve jf jg toList_inj appK_spec z5)
section
variable {P : Program} {w0 : World} {ro c : Nat} {ρ : Rh} {h : H} {w : World}
theorem qqf (s s' : ByteArray) : (s == s') = decide (s = s') := by
 cases s with | mk a => cases s' with | mk b =>
 rw [Bool.eq_iff_iff];simp only [ByteArray.mk.injEq, decide_eq_true_eq];show (a == b) = true ↔ _
 simp
theorem qbg {r : Nat} {o : Obj} (hb : w.heap[r]? = some o) (hn : ∀ a b c, o ≠ .cells a b c) (hp : ∀ a b, o ≠ .pending a b) (hv : ∀ a b, o ≠ .view a b) (hu : ∀ a b, o ≠ .number a b) : (getObj r).run P w = .ok o w := by
 simp only [getObj, Sem.run, hb]
theorem qew {r : Nat} {o o' : Obj} (hb : w.heap[r]? = some o) (hn : ∀ a b c, o ≠ .cells a b c) : Turn w r { w with heap := w.heap.setIfInBounds r o' } where
 size := by simp
 os := rfl
 tape := rfl
 output := rfl
 other := fun x hx => by simp [Array.getElem?_setIfInBounds_ne (Ne.symm hx)]
 shape := fun vs t fr hh => by rw [hb] at hh; cases hh; exact absurd rfl (hn _ _ _)
theorem qh1 {r : Nat} {o o' : Obj} (hb : w.heap[r]? = some o) : ({ w with heap := w.heap.setIfInBounds r o' } : World).heap[r]? = some o' := by
 have hlt := (Array.getElem?_eq_some_iff.1 hb).1
 simp [hlt]
theorem qr3 (hr : Rel w0 ρ h w) (hd : Dom ρ c) {t : TypeId} {x : V} {u : Value} (hx : VR w ρ x u) : Good P w0 ro c ρ w (vS (Instr.range t u)) (oRange P h c t x) := by
 unfold oRange
 split
 ·rename_i s hu
  have := hx.lit_inv; subst this;exact xo (u := .pointer (some ⟨w.heap.size, 0, none⟩)) (o := .stringIter s 0) hr hd (by simp [Instr.range, run_underlying hu]) ⟨rfl, heap_alloc_new w _⟩ (.it (l := ⟨w.heap.size, 0⟩) (vv _))
 ·trivial
theorem quj (hr : Rel w0 ρ h w) (hd : Dom ρ c) (hct : c ≤ 1048576) {i : V} {u : Value} {str : Bool} {ty : TypeId} (hi : VR w ρ i u) : Good P w0 ro c ρ w (vS (Instr.next u str ty)) (oNext h c ro i str) := by
 unfold oNext
 split
 ·rename_i id
  split
  ·rename_i s pos hg
   cases str with
   | false => trivial
   | true =>
    rw [cond_true]
    cases hi with
    | @it _ l hl =>
     obtain ⟨b, h1, h2, h3, h4⟩ := hr.blk id l hl
     have : b = .sit s pos := by rw [hg] at h1; exact (Option.some.inj h1).symm
     subst this;obtain ⟨h5, h6⟩ := h3;have hget := qbg (P := P) h6 (by simp) (by simp) (by simp) (by simp);unfold nextS
     cases hp : s.data.toList[pos]? with
     | none =>
      have hge : ¬ (pos < s.size) := by
       intro hlt
       have : pos < s.data.toList.length := by rw [Array.length_toList]; exact hlt
       rw [List.getElem?_eq_getElem this] at hp
       cases hp
      refine jo (u := .tuple #[.bool false]) hr ?_ (.tup (.cons (.lit _) .nil))
      simp [Instr.next, hget, hge]
     | some bt =>
      dsimp only
      have hlt : pos < s.data.toList.length := by
       rcases Nat.lt_or_ge pos s.data.toList.length with h | h
       ·exact h
       ·rw [List.getElem?_eq_none h] at hp; cases hp
      have hlt' : pos < s.size := by rw [Array.length_toList] at hlt; exact hlt
      cases hc : (Nat.blt bt.toNat 128 && Nat.ble ro id) with
      | false => trivial
      | true =>
       rw [cond_true, zf, zf];simp only [Bool.and_eq_true] at hc;have c1 : bt.toNat < 128 := Nat.le_of_ble_eq_true hc.1;have c2 := Nat.le_of_ble_eq_true hc.2
       have hbt : (s.get! pos).toNat = bt.toNat := by
        rw [List.getElem?_eq_getElem hlt] at hp;simp only [Option.some.injEq] at hp;rw [← hp]
        have : s.get! pos = s.data.toList[pos] := by
         simp only [ByteArray.get!];rw [getElem!_pos s.data pos hlt']
         simp
        rw [this]
       have hdec : Utf8.decode s pos = (bt.toNat, 1) := by
        simp only [Utf8.decode, Nat.add_zero, hbt];rw [if_pos c1]
       have htn := qew (o' := .stringIter s (pos + 1)) h6 (by simp);have hid := hd id l hl
       have hrun : (Instr.next (.pointer (some ⟨l.b, 0, none⟩)) true ty).run P w = .ok (.tuple #[.bool true, .int .i64 (Int.ofNat pos), .int .i32 (Int.ofNat bt.toNat)]) { w with heap := w.heap.setIfInBounds l.b (.stringIter s (pos + 1)) } := by
        simp only [Instr.next, Sem.run_bind, hget, Result.andThen_ok];rw [if_pos hlt', hdec]
        simp [setObj, Sem.run, h6, goInt]
       show UponE _ _ _ _ _ _ _ _ _;rw [qb6 hrun];exact ⟨ρ, qah hr htn hl hg rfl rfl (by omega) ⟨h5, qh1 h6⟩, qag htn hl c2, .tup (.cons (.lit _) (.cons (.lit _) (.cons (.lit _) .nil)))⟩
  ·trivial
 ·trivial
theorem qmp (hr : Rel w0 ρ h w) (hd : Dom ρ c) {t : TypeId} {r : Option Operand} {e : Operand → Value} : Good P w0 ro c ρ w (vS (Instr.makeMap t (r.map e))) (oMakeMap P h c t r) := by
 unfold oMakeMap
 split
 ·exact xo (u := .map (some w.heap.size)) (o := .map #[] 0) hr hd (by simp [Instr.makeMap]) ⟨#[], 0, heap_alloc_new w _, .nil⟩ (.mp (l := ⟨w.heap.size, 0⟩) (vv _))
 ·trivial
theorem qji {t k e : TypeId} (h : mapTy P t = some (k, e)) : P.underlying t = some (.map k e) := by
 unfold mapTy at h
 split at h
 ·rename_i h1; simp only [Option.some.injEq, Prod.mk.injEq] at h; obtain ⟨rfl, rfl⟩ := h; exact h1
 ·cases h
theorem xy {kt : TypeId} {k : Value} (h : keyOk P kt k = true) : (∃ kd n, k = .int kd n ∧ P.underlying kt = some (.int kd)) ∨ (∃ s, k = .string s ∧ P.underlying kt = some .string) := by
 unfold keyOk at h
 split at h
 ·rename_i k' k2 n hu
  have := of_decide_eq_true h;subst this;exact .inl ⟨_, n, rfl, hu⟩
 ·rename_i s hu; exact .inr ⟨s, rfl, hu⟩
 ·cases h
theorem qex {kt : TypeId} {k : Value} (h : keyOk P kt k = true) (b : Bool) (n : Nat) : (Instr.checkKey b (n + 1) kt k).run P w = .ok () w := by
 rcases xy h with ⟨kd, m, rfl, hu⟩ | ⟨s, rfl, hu⟩ <;> simp [Instr.checkKey, run_underlying hu]
theorem run_checkKey {kt : TypeId} {k : Value} (h : keyOk P kt k = true) (b : Bool) : (Instr.checkKey b 10000 kt k).run P w = .ok () w := qex h b 9999
theorem qku {kt : TypeId} {d : TypeDesc} {k k' : Value} {b : Bool} (h : keyOk P kt k = true) (hu : P.underlying kt = some d) (hk : keyEq k k' = some b) : Instr.sameNow d k k' = some b := by
 rcases xy h with ⟨kd, n, rfl, hu'⟩ | ⟨s, rfl, hu'⟩
 ·rw [hu'] at hu; cases hu
  cases k' <;> simp only [keyEq] at hk <;> try (cases hk; done)
  rename_i kd' n'
  by_cases he : kd = kd'
  ·subst he;rw [decide_eq_true rfl, cond_true] at hk;simp only [Option.some.injEq] at hk;simp only [Instr.sameNow, if_true, Option.some.injEq, ← hk];rw [Bool.eq_iff_iff]; simp
  ·rw [decide_eq_false he] at hk; cases hk
 ·rw [hu'] at hu; cases hu
  cases k' <;> simp only [keyEq] at hk <;> try (cases hk; done)
  rename_i s'
  simp only [Option.some.injEq] at hk;simp only [Instr.sameNow, Option.some.injEq, ← hk, qit, qqf];rw [Bool.eq_iff_iff];simp only [decide_eq_true_eq]
  constructor
  ·rintro rfl; rfl
  ·intro e
   cases s; cases s'
   rw [ByteArray.mk.injEq];exact Array.toList_inj.1 e
theorem qbw {kt : TypeId} {d : TypeDesc} {k : Value} (h : keyOk P kt k = true) (hu : P.underlying kt = some d) : ∀ {es : List (Value × V)} {entries : List MapEntry} {r : Option V} (i : Nat), ER w ρ es entries → findE k es = some r →
  (r = none ∧ Instr.findNow d k entries i = some none ∧ ∀ x, putE k x es = es ++ [(k, x)]) ∨ ∃ v j u, r = some v ∧ Instr.findNow d k entries i = some (some (i + j, u)) ∧ VR w ρ v u ∧ ∃ e, entries[j]? = some e ∧ e.val = u ∧ keyEq k e.key = some true ∧ ∀ x ux, VR w ρ x ux → ER w ρ (putE k x es) (entries.modify j fun e => { e with key := k, val := ux })
 | _, _, r, i, .nil, hf => by
  simp only [findE, Option.some.injEq] at hf;subst hf;exact .inl ⟨rfl, rfl, fun _ => rfl⟩
 | _, _, r, i, .cons (k := k') (v := v) (e := e) hk hv htl, hf => by
  simp only [findE] at hf
  cases hq : keyEq k k' with
  | none => rw [hq] at hf; cases hf
  | some b =>
   have hs := qku h hu (by rw [← hk] at hq; exact hq);rw [hq] at hf
   cases b with
   | true =>
    simp only [Option.some.injEq] at hf;subst hf;refine .inr ⟨v, 0, e.val, rfl, by simp [Instr.findNow, hs], hv, e, rfl, rfl, by rw [hk]; exact hq, fun x ux hx => by simp only [putE, hq, List.modify_zero_cons]; exact .cons rfl hx htl⟩
   | false =>
    rcases qbw h hu (i + 1) htl hf with ⟨g1, g2, g3⟩ | ⟨v', j, u, g1, g2, g3, e', g4, g5, g6, g7⟩
    ·exact .inl ⟨g1, by simp [Instr.findNow, hs, g2], fun x => by simp only [putE, hq, g3, List.cons_append]⟩
    ·refine .inr ⟨v', j + 1, u, g1, by simp only [Instr.findNow, hs, g2]; congr 3; omega, g3, e', by simpa using g4, g5, g6, fun x ux hx => by simp only [putE, hq, List.modify_succ_cons]; exact .cons hk hv (g7 x ux hx)⟩
end
end Go.Ex
namespace Go.Ex
open Go.Sim (tyK fieldK zeroK placesK appK flatK setAt z7 zg zj ja jx ve jf jg toList_inj appK_spec z5)
section
variable {P : Program} {w0 : World} {ro c : Nat} {ρ : Rh} {h : H} {w : World}
theorem qmq {e : TypeId} {v : V} (h : ofZero P e = some v) : ∃ u, (zeroValue e).run P w = .ok u w ∧ VR w ρ v u := by
 unfold ofZero at h
 split at h
 ·rename_i i hi
  split at h
  ·rename_i cs hz
   cases hc : cs.toList.all Value.oneCell' with
   | false => rw [hc] at h; cases h
   | true =>
    rw [hc, cond_true] at h;simp only [Option.some.injEq] at h;subst h;refine ⟨.agg cs, kw hi hz, ?_⟩;have := VR.agg (VC.lits (w := w) (ρ := ρ) (List.all_eq_true.1 hc))
    simpa using this
  ·rename_i z _ hz
   cases hc : z.oneCell' with
   | false => rw [hc] at h; cases h
   | true =>
    rw [hc, cond_true] at h;simp only [Option.some.injEq] at h;subst h;exact ⟨z, kw hi hz, .lit z⟩
  ·cases h
 ·cases h
theorem quk {kt : TypeId} {k : Value} (h : keyOk P kt k = true) : ∃ d, P.underlying kt = some d := by
 rcases xy h with ⟨_, _, _, hu⟩ | ⟨_, _, hu⟩ <;> exact ⟨_, hu⟩
theorem qo4 (hr : Rel w0 ρ h w) {t : TypeId} {m k : V} {um uk : Value} {ok : Bool} (hm : VR w ρ m um) (hk : VR w ρ k uk) : Good P w0 ro c ρ w (vS (Instr.lookup t um uk ok)) (oLookup P h c t m k ok) := by
 unfold oLookup
 split
 ·rename_i kt e id kv hmt
  have hu := qji hmt;have := hk.lit_inv; subst this
  cases hm with
  | @mp _ l hl =>
   split
   ·rename_i es z hg hz
    cases hko : keyOk P kt uk with
    | false => trivial
    | true =>
     rw [cond_true];obtain ⟨b, h1, h2, h3, h4⟩ := hr.blk id l hl
     have : b = .map es := by rw [hg] at h1; exact (Option.some.inj h1).symm
     subst this;obtain ⟨entries, clock, h5, h6⟩ := h3;have hget := qbg (P := P) h5 (by simp) (by simp) (by simp) (by simp);obtain ⟨d, hd⟩ := quk hko;obtain ⟨uz, hz1, hz2⟩ := qmq (P := P) (w := w) (ρ := ρ) hz;unfold found
     split
     ·rename_i v hf
      rcases qbw hko hd 0 h6 hf with ⟨g1, _⟩ | ⟨v', j, u, g1, g2, g3, _⟩
      ·cases g1
      ·simp only [Option.some.injEq] at g1;subst g1
       cases ok with
       | true =>
        refine jo (u := .tuple #[u, .bool true]) hr ?_ (.tup (.cons g3 (.cons (.lit _) .nil)))
        simp [Instr.lookup, run_underlying hu, hget, run_checkKey hko, Instr.findKey, run_underlying hd, g2]
       | false =>
        refine jo (u := u) hr ?_ g3
        simp [Instr.lookup, run_underlying hu, hget, run_checkKey hko, Instr.findKey, run_underlying hd, g2]
     ·rename_i hf
      rcases qbw hko hd 0 h6 hf with ⟨_, g2, _⟩ | ⟨_, _, _, g1, _⟩
      ·cases ok with
       | true =>
        refine jo (u := .tuple #[uz, .bool false]) hr ?_ (.tup (.cons hz2 (.cons (.lit _) .nil)))
        simp [Instr.lookup, run_underlying hu, hget, run_checkKey hko, Instr.findKey, run_underlying hd, g2, hz1]
       | false =>
        refine jo (u := uz) hr ?_ hz2
        simp [Instr.lookup, run_underlying hu, hget, run_checkKey hko, Instr.findKey, run_underlying hd, g2, hz1]
      ·cases g1
     ·trivial
   ·trivial
 ·trivial
theorem qmr {kt : TypeId} {k k' : Value} (h : keyOk P kt k = true) (hk : keyEq k k' = some true) (n : Nat) : Instr.sameBits n k' k = true := by
 rcases xy h with ⟨kd, m, rfl, hu'⟩ | ⟨s, rfl, hu'⟩
 ·cases k' <;> simp only [keyEq] at hk <;> try (cases hk; done)
  rename_i kd' n'
  by_cases he : kd = kd'
  ·subst he;rw [decide_eq_true rfl, cond_true] at hk;simp only [Option.some.injEq, decide_eq_true_eq] at hk;subst hk
   cases n <;> simp [Instr.sameBits]
  ·rw [decide_eq_false he] at hk; cases hk
 ·cases k' <;> simp only [keyEq] at hk <;> try (cases hk; done)
  rename_i s'
  simp only [Option.some.injEq, qit, decide_eq_true_eq] at hk
  have : s = s' := by
   cases s; cases s'
   rw [ByteArray.mk.injEq];exact Array.toList_inj.1 hk
  subst this
  cases n <;> simp [Instr.sameBits, qqf]
theorem qh2 (hr : Rel w0 ρ h w) (hd : Dom ρ c) (hct : c ≤ 1048576) {t : TypeId} {m k v : V} {um uk uv : Value} (hm : VR w ρ m um) (hk : VR w ρ k uk) (hv : VR w ρ v uv) : Good P w0 ro c ρ w (uS (Instr.mapUpdate t um uk uv)) (oMapUpdate P h c ro t m k v) := by
 unfold oMapUpdate
 split
 ·rename_i kt e id kv hmt
  have hu := qji hmt;have := hk.lit_inv; subst this
  cases hm with
  | @mp _ l hl =>
   split
   ·rename_i es hg
    cases hcnd : (keyOk P kt uk && Nat.ble ro id) with
    | false => trivial
    | true =>
     rw [cond_true];simp only [Bool.and_eq_true] at hcnd;obtain ⟨hko, hro⟩ := hcnd;have hro := Nat.le_of_ble_eq_true hro;obtain ⟨b, h1, h2, h3, h4⟩ := hr.blk id l hl
     have : b = .map es := by rw [hg] at h1; exact (Option.some.inj h1).symm
     subst this;obtain ⟨entries, clock, h5, h6⟩ := h3;have hget := qbg (P := P) h5 (by simp) (by simp) (by simp) (by simp);obtain ⟨d, hdd⟩ := quk hko;have hid := hd id l hl
     cases hf : findE uk es with
     | none => trivial
     | some r =>
      dsimp only;show UponE _ _ _ _ _ _ _ _ _
      rcases qbw hko hdd 0 h6 hf with ⟨_, g2, g3⟩ | ⟨v', j, u, g1, g2, g3, e', g4, g5, g6, g7⟩
      ·have htn := qew (o' := .map (entries.push { key := uk, val := uv, born := clock }) (clock + 1)) h5 (by simp)
       have hrun : (Instr.mapUpdate t (.map (some l.b)) uk uv).run P w = .ok () { w with heap := w.heap.setIfInBounds l.b (.map (entries.push { key := uk, val := uv, born := clock }) (clock + 1)) } := by
        simp only [Instr.mapUpdate, Sem.run_bind, run_underlying hu, Result.andThen_ok, hget, run_checkKey hko, Instr.findKey, run_underlying hdd, g2, Sem.run_pure]
        simp [setObj, Sem.run, h5]
       rw [qll hrun];refine ⟨ρ, qah hr htn hl hg rfl rfl (by omega) ⟨_, _, qh1 h5, ?_⟩, qag htn hl hro, .lit undef⟩;rw [g3];have h6' := ER.mono (fun _ _ h => h) htn.shapes h6
       have happ : ∀ {a : List (Value × V)} {x : List MapEntry} {b : List (Value × V)} {y : List MapEntry} {w : World}, ER w ρ a x → ER w ρ b y → ER w ρ (a ++ b) (x ++ y) := by
        intro a x b y w ha hb
        induction ha with
        | nil => exact hb
        | cons p q r ih => exact .cons p q ih
       have := happ h6' (.cons (k := uk) (v := v) (e := { key := uk, val := uv, born := clock }) rfl (VR.mono (fun _ _ h => h) htn.shapes hv) .nil)
       simpa using this
      ·have htn := qew (o' := .map (entries.modify (0 + j) fun e => { e with key := uk, val := uv }) clock) h5 (by simp)
       have hks : (Instr.keyThatStays (((entries[0 + j]?).map (·.key)).getD uk) uk).run P w = .ok uk w := by
        have : entries[0 + j]? = some e' := by rw [Nat.zero_add]; simpa using g4
        rw [this];have hsb := qmr hko g6 10000;simp only [Option.map_some, Option.getD_some, Instr.keyThatStays, hsb, if_true, Sem.run_pure]
       have hrun : (Instr.mapUpdate t (.map (some l.b)) uk uv).run P w = .ok () { w with heap := w.heap.setIfInBounds l.b (.map (entries.modify (0 + j) fun e => { e with key := uk, val := uv }) clock) } := by
        simp only [Instr.mapUpdate, Sem.run_bind, run_underlying hu, Result.andThen_ok, hget, run_checkKey hko, Instr.findKey, run_underlying hdd, g2, Sem.run_pure, hks]
        simp [setObj, Sem.run, h5]
       rw [qll hrun];refine ⟨ρ, qah hr htn hl hg rfl rfl (by omega) ⟨_, _, qh1 h5, ?_⟩, qag htn hl hro, .lit undef⟩;have := ER.mono (fun _ _ h => h) htn.shapes (g7 v uv hv)
       simpa using this
   ·trivial
 ·trivial
end
end Go.Ex
namespace Go.Ex
open Go.Sim (tyK fieldK zeroK placesK appK flatK setAt z7 zg zj ja jx ve jf jg toList_inj appK_spec z5)
section
variable {P : Program} {w0 : World} {ro c : Nat} {ρ : Rh} {h : H} {w : World}
theorem qul (hr : Rel w0 ρ h w) (hd : Dom ρ c) (hct : c ≤ 1048576) {t t2 ty : TypeId} {d x : V} {ud ux : Value} (hdv : VR w ρ d ud) (hx : VR w ρ x ux) : Good P w0 ro c ρ w (vS (Builtin.copy_ #[t, t2] ty #[ud, ux])) (oCopy P h c ro [d, x] [t, t2]) := by
 unfold oCopy;dsimp only
 cases hs : slTy P t with
 | none => trivial
 | some e =>
  have hu := qhc hs;dsimp only
  split
  ·rename_i k b id off n k1 cap id2 off2 m k2 cap2 hty
   cases hkk : (Nat.beq k k1 && Nat.beq k k2) with
   | false => trivial
   | true =>
    rw [cond_true];simp only [Bool.and_eq_true] at hkk;have e1 := Nat.eq_of_beq_eq_true hkk.1;have e2 := Nat.eq_of_beq_eq_true hkk.2;subst e1; subst e2;unfold copyV
    cases hcnd : (Nat.beq n m && Nat.ble ro id && Nat.blt 0 n) with
    | false => trivial
    | true =>
     rw [cond_true];simp only [Bool.and_eq_true] at hcnd;have e3 := Nat.eq_of_beq_eq_true hcnd.1.1;subst e3;have hro := Nat.le_of_ble_eq_true hcnd.1.2;have hn : 0 < n := Nat.le_of_ble_eq_true hcnd.2
     split
     ·rename_i l all hsl hg
      cases hfit : Nat.ble (off + n * k) all.length with
      | false => trivial
      | true =>
       have hfit := Nat.le_of_ble_eq_true hfit;rw [cond_true]
       cases hdv with
       | @sl _ _ _ _ cap' p _ l1 hl1 h1 h2 h3 h4 =>
        cases hx with
        | @sl _ _ _ _ cap2' p2 _ l2 hl2 q1 q2 q3 q4 =>
         obtain ⟨us, g1, g2, g3⟩ := qbf hr hl2 hsl;obtain ⟨hp, _⟩ := h4.resolve_left (by omega);obtain ⟨hp2, _⟩ := q4.resolve_left (by omega);obtain ⟨bb, r1, r2, r3, r4⟩ := hr.blk id l1 hl1
         have : bb = .cells all := by rw [hg] at r1; exact (Option.some.inj r1).symm
         subst this;obtain ⟨cur, ty', k1, k2, k3⟩ := r3;obtain ⟨w', cur', s1, s2, s3, s4, s5, s6, s7, s8⟩ := z5 (P := P) l1.b (l1.o + off) _ us 0 cur w k1 (by omega) g1.one
         have hcs : cur'.size = cur.size := by
          rw [← Array.length_toList, s3, ← Array.length_toList (xs := cur)];simp only [setAt, List.length_append, List.length_take, List.length_drop, Array.length_toList]
          omega
         have htn : Turn w l1.b w' := ⟨s5, s6, s7, s8, s4, fun vs t fr hh => by
          rw [k1] at hh; cases hh; exact ⟨cur', _, s2, hcs⟩⟩
         have hf := run_firstCells_some (P := P) w k n ⟨l2.b, p2, none⟩ n cap2' us g2 (fun j u hj => by rw [Addr.add_lit, hp2]; exact g3 j u hj);have hid := hd id l1 hl1
         have hrun : (Builtin.copy_ #[t, t2] ty #[.slice (some ⟨l1.b, p, none⟩) n cap', .slice (some ⟨l2.b, p2, none⟩) n cap2']).run P w = .ok (.int .i64 (Int.ofNat n)) w' := by
          subst hp
          simp [Builtin.copy_, run_underlying hu, Builtin.lenOf, Sim.run_sizeOf hty, hf, s1, goInt]
         show UponE _ _ _ _ _ _ _ _ _;rw [qb6 hrun];have hll := g1.length
         have hlen : (setAt all off l).length = all.length := by
          simp only [setAt, List.length_append, List.length_take, List.length_drop]
          omega
         refine ⟨ρ, qah hr htn hl1 hg rfl rfl (by omega) ⟨cur', _, s2, by rw [hlen]; omega, ?_⟩, qag htn hl1 hro, .lit _⟩;rw [hlen, s3, Nat.add_zero]
         have hml : cur.toList.length = cur.size := by simp
         rw [qdo (n := all.length) (by omega) (by omega)];exact VC.mono (fun _ _ h => h) htn.shapes (k3.setAt off g1)
     ·trivial
  ·rename_i kb id off k1 cap hty
   have := hx.lit_inv; subst this
   cases hdv with
   | @sl _ _ _ _ cap' p _ l1 hl1 h1 h2 h3 h4 =>
    obtain ⟨k, b⟩ := kb;refine vu hr ?_
    simp [Builtin.copy_, run_underlying hu, Builtin.lenOf, Sim.run_sizeOf hty, Builtin.firstCells, storeCells, goInt]
  ·trivial
theorem qum (hr : Rel w0 ρ h w) {t ty : TypeId} {x : V} {u : Value} (hx : VR w ρ x u) : Good P w0 ro c ρ w (vS (Builtin.len_ #[t] ty #[u])) (lenV P h c t x) := by
 unfold lenV
 split
 ·rename_i e id off n k cap hu
  cases hx with
  | sl hl h1 h2 h3 h4 => exact vu hr (by simp [Builtin.len_, underlying, hu, goInt])
 ·rename_i e hu
  have := hx.lit_inv; subst this;exact vu hr (by simp [Builtin.len_, underlying, hu, goInt])
 ·rename_i s hu
  have := hx.lit_inv; subst this;refine kc hr ?_;have hsz : s.data.toList.length = s.size := Array.length_toList;rw [hsz]
  simp [Builtin.len_, underlying, hu, goInt]
 ·trivial
theorem qwd (hr : Rel w0 ρ h w) {ts : Array TypeId} {ty : TypeId} {x y : V} {ux uy : Value} (hx : VR w ρ x ux) (hy : VR w ρ y uy) : Good P w0 ro c ρ w (vS (Builtin.max_ ts ty #[ux, uy])) (oMM h c true [x, y]) := by
 unfold oMM
 split
 ·rename_i a b heq
  simp only [List.cons.injEq, and_true] at heq;obtain ⟨rfl, rfl⟩ := heq;have := hx.lit_inv; subst this;have := hy.lit_inv; subst this;refine kc hr ?_;rw [qdp];simp only [run_max_int2, cond_true]
  by_cases h1 : a < b
  ·rw [decide_eq_true h1, if_pos h1]; rfl
  ·rw [decide_eq_false h1, if_neg h1]; rfl
 ·trivial
theorem qwe (hr : Rel w0 ρ h w) {ts : Array TypeId} {ty : TypeId} {x y : V} {ux uy : Value} (hx : VR w ρ x ux) (hy : VR w ρ y uy) : Good P w0 ro c ρ w (vS (Builtin.min_ ts ty #[ux, uy])) (oMM h c false [x, y]) := by
 unfold oMM
 split
 ·rename_i a b heq
  simp only [List.cons.injEq, and_true] at heq;obtain ⟨rfl, rfl⟩ := heq;have := hx.lit_inv; subst this;have := hy.lit_inv; subst this;refine kc hr ?_;rw [qdp];simp only [run_min_int2, cond_false]
  by_cases h1 : a < b
  ·rw [decide_eq_true h1, if_neg (by omega)]; rfl
  ·by_cases h2 : b < a
   ·rw [decide_eq_false h1, if_pos h2]; rfl
   ·have : a = b := by omega
    subst this;rw [decide_eq_false h1, if_neg h2]; rfl
 ·trivial
end
end Go.Ex
namespace Go.Ex
open Go.Sim (tyK fieldK zeroK placesK appK flatK setAt)
section
variable {P : Program} {w0 : World} {ro c : Nat} {ρ : Rh} {h : H} {w : World}
theorem qjj {ev : Ev} {e : Operand → Value} : ∀ {l : List Operand}, (∀ x ∈ l, VR w ρ (ev x) (e x)) → VL w ρ (l.map ev) (l.map e)
 | [], _ => .nil
 | x :: l, h => .cons (h x List.mem_cons_self) (qjj fun y hy => h y (List.mem_cons_of_mem _ hy))
theorem qd3 {ev : Ev} {e : Operand → Value} {ps : Array (Nat × Operand)} (h : ∀ p ∈ ps.toList, VR w ρ (ev p.2) (e p.2)) : PartsR w ρ (partsV ev ps) (ps.map fun (i, x) => (i, e x)).toList := by
 refine ⟨by simp [partsV], fun j p q hp hq => ?_⟩;simp only [partsV, List.getElem?_map, Option.map_eq_some_iff] at hp;obtain ⟨r, h1, rfl⟩ := hp;rw [Array.toList_map, List.getElem?_map, h1] at hq;simp only [Option.map_some, Option.some.injEq] at hq;subst hq;exact ⟨rfl, h r (List.mem_of_getElem? h1)⟩
theorem qms {ev : Ev} {e : Operand → Value} {x : Option Operand} (h : ∀ y, x = some y → VR w ρ (ev y) (e y)) : OR w ρ (x.map ev) (x.map e) := by
 cases x with
 | none => exact .none
 | some y => exact .some (h y rfl)
theorem qo5 (hr : Rel w0 ρ h w) {t ty : TypeId} {s x : V} {u v : Value} (hs : VR w ρ s u) (hx : VR w ρ x v) (hn : isNil x = true) : Good P w0 ro c ρ w (vS (appS' t ty u v)) (appNil P h c t s) := by
 unfold appNil
 split
 ·rename_i ekb ha
  obtain ⟨e, k, by_⟩ := ekb;obtain ⟨i, z, t1, t2, t3, t4, t5, t6⟩ := Sim.appK_spec ha
  obtain ⟨a, cp, rfl⟩ : ∃ a cp, v = .slice a 0 cp := by
   unfold isNil at hn
   split at hn
   ·exact ⟨none, 0, hx.lit_inv⟩
   ·cases hx with | sl hl h1 h2 h3 h4 => exact ⟨_, _, rfl⟩
   ·cases hn
  have hf : ∀ n, (Builtin.firstCells n 0 (.slice a 0 cp)).run P w = .ok #[] w := by
   intro n
   cases a with
   | none => simp [Builtin.firstCells]
   | some a => simp [Builtin.firstCells, loadCells, loadCellsFrom]
  cases ho : okSl s with
  | false => trivial
  | true =>
   rw [cond_true];refine jo hr ?_ hs;unfold okSl at ho
   split at ho
   ·have := hs.lit_inv; subst this
    simp [appS', Builtin.append_, run_underlying t1, sizeOf, typeInfo, t2, Builtin.lenOf, hf]
   ·cases hs with
    | sl hl h1 h2 h3 h4 => simp [appS', Builtin.append_, run_underlying t1, sizeOf, typeInfo, t2, Builtin.lenOf, hf, h1, storeCells]
   ·cases ho
 ·trivial
theorem qgo (hr : Rel w0 ρ h w) (hd : Dom ρ c) (hct : c ≤ 1048576) {o : Oper} {e : Operand → Value} {ev : Ev} (he : ∀ x ∈ o.op.operands, VR w ρ (ev x) (e x)) : Good P w0 ro c ρ w (execOp e o) (iop P h c ro o.op ev) := by
 obtain ⟨dst, op, type, pos, after, guard⟩ := o;dsimp only at he ⊢
 cases op with
 | move x => exact ww hr rfl (he x (by simp [Op.operands]))
 | assign x => exact ww hr rfl (he x (by simp [Op.operands]))
 | pick b x y => exact qte hr (he b (by simp [Op.operands])) (he x (by simp [Op.operands])) (he y (by simp [Op.operands]))
 | alloc t => exact qqx hr hd
 | box t x => exact qvo hr hd (he x (by simp [Op.operands]))
 | load t a => exact qtd hr (he a (by simp [Op.operands]))
 | store t a x => exact qqy hr hd hct (he a (by simp [Op.operands])) (he x (by simp [Op.operands]))
 | nilCheck x => exact qvp hr (o := ⟨dst, .nilCheck x, type, pos, after, guard⟩) rfl (he x (by simp [Op.operands]))
 | binOp op t x y t' => exact qq1 hr (he x (by simp [Op.operands])) (he y (by simp [Op.operands]))
 | unOp op t x => exact g_un hr (he x (by simp [Op.operands]))
 | convert s t x => exact qth hr (he x (by simp [Op.operands]))
 | fieldAddr s x i => exact qha hr (he x (by simp [Op.operands]))
 | field s x i => exact qq2 hr (he x (by simp [Op.operands]))
 | indexAddr t x i => exact qhb hr (he x (by simp [Op.operands])) (he i (by simp [Op.operands]))
 | index t x i => exact qq3 hr (he x (by simp [Op.operands])) (he i (by simp [Op.operands]))
 | build t ps => exact qq4 hr (qd3 fun p hp => he p.2 (by simp [Op.operands]; exact ⟨p.1, by simpa using hp⟩))
 | buildSlice t n ps => exact qfs hr hd (qd3 fun p hp => he p.2 (by simp [Op.operands]; exact ⟨p.1, by simpa using hp⟩))
 | makeFunc f first cap =>
  have := qka (P := P) (w0 := w0) (ro := ro) (c := c) (f := f) hr (qjj (l := first.toList) fun x hx => he x (by simp [Op.operands]; exact .inl (by simpa using hx))) (qjj (l := cap.toList) fun x hx => he x (by simp [Op.operands]; exact .inr (by simpa using hx)));rw [← Array.toList_map, ← Array.toList_map] at this;exact this
 | makeMap t r => exact qmp hr hd
 | lookup t m k ok => exact qo4 hr (he m (by simp [Op.operands])) (he k (by simp [Op.operands]))
 | mapUpdate t m k v => exact qh2 hr hd hct (he m (by simp [Op.operands])) (he k (by simp [Op.operands])) (he v (by simp [Op.operands]))
 | range t x => exact qr3 hr hd (he x (by simp [Op.operands]))
 | next i str => exact quj hr hd hct (he i (by simp [Op.operands]))
 | makeSlice t l cp => exact qhd hr hd (he l (by simp [Op.operands])) (he cp (by simp [Op.operands]))
 | slice t x lo hi mx =>
  refine qq5 hr (he x (by simp [Op.operands])) (qms fun y hy => he y ?_) (qms fun y hy => he y ?_) (qms fun y hy => he y ?_)
  all_goals subst hy; simp [Op.operands]
 | extract x i => exact qlo hr (he x (by simp [Op.operands]))
 | call cl =>
  obtain ⟨callee, as, ts⟩ := cl
  have hal : VL w ρ (mapL ev as) (as.map e).toList := by
   rw [Array.toList_map];exact qjj fun x hx => he x (by simp [Op.operands, Call.operands]; exact .inr (by simpa using hx))
  cases callee with
  | invoke _ _ => trivial
  | value f =>
   have hf := he f (by simp [Op.operands, Call.operands]);show Good _ _ _ _ _ _ _ (oCall (ev f) (mapL ev as));unfold oCall
   split
   ·rename_i f' hfe
    rw [hfe] at hf;have := hf.lit_inv;exact ⟨(as.map e).toList, by simp [execOp, resolve, this, Deferred.ofValue, invoke, ← Array.toList_map], hal⟩
   ·rename_i f' first cap hfe
    rw [hfe] at hf;generalize hu : e f = u at hf
    cases hf with
    | @fn _ _ _ fs cs h1 h2 =>
     have harr : (fs ++ (as.map e).toList ++ cs).toArray = fs.toArray ++ (as.map e ++ cs.toArray) := by apply Array.ext'; simp
     exact ⟨fs ++ (as.map e).toList ++ cs, by rw [harr]; simp [execOp, resolve, hu, Deferred.ofValue, invoke], (h1.append hal).append h2⟩
   ·trivial
  | builtin b =>
   obtain ⟨ks, hrun⟩ : ∃ ks, execOp e ⟨dst, .call ⟨.builtin b, as, ts⟩, type, pos, after, guard⟩ = builtin b ts type ks (as.map e) := ⟨_, rfl⟩;show Good _ _ _ _ _ _ _ (oBuiltin P h c ro b (mapL ev as) ts.toList);rw [hrun]
   have tsl : ∀ {t : TypeId}, ts.toList = [t] → ts = #[t] := fun h => by rw [← Array.toArray_toList (xs := ts), h]
   have tsl2 : ∀ {t u : TypeId}, ts.toList = [t, u] → ts = #[t, u] := fun h => by rw [← Array.toArray_toList (xs := ts), h]
   generalize hvl : mapL ev as = vl at hal;generalize hul : (as.map e) = ul at hal ⊢
   have ul1 : ∀ {u : Value}, ul.toList = [u] → ul = #[u] := fun h => by rw [← Array.toArray_toList (xs := ul), h]
   have ul2 : ∀ {u v : Value}, ul.toList = [u, v] → ul = #[u, v] := fun h => by rw [← Array.toArray_toList (xs := ul), h]
   generalize hl : ul.toList = us at hal
   cases b with
   | len =>
    show Good _ _ _ _ _ _ _ (oLen P h c vl ts.toList);unfold oLen
    split
    ·rename_i x t hts
     cases hal with
     | cons hx htl =>
      cases htl
      rw [ul1 hl, tsl hts];exact qum hr hx
    ·trivial
   | append =>
    show Good _ _ _ _ _ _ _ (oAppend P h c ro vl ts.toList);unfold oAppend
    split
    ·rename_i s x t t' hts
     cases htt : Nat.beq t t' with
     | false => trivial
     | true =>
      have := Nat.eq_of_beq_eq_true htt;subst this;rw [cond_true]
      cases hal with
      | cons hs htl =>
       cases htl with
       | cons hx htl2 =>
        cases htl2
        rw [ul2 hl, tsl2 hts]
        cases hn : isNil x with
        | true => exact qo5 hr hs hx hn
        | false => exact qo3 hr hd hs hx
    ·trivial
   | max =>
    show Good _ _ _ _ _ _ _ (oMM h c true vl)
    cases hal with
    | nil => trivial
    | cons hx htl =>
     cases htl with
     | nil => unfold oMM; split <;> first | trivial | (rename_i hh; simp at hh)
     | cons hy htl2 =>
      cases htl2 with
      | nil => rw [ul2 hl]; exact qwd hr hx hy
      | cons _ _ => unfold oMM; split <;> first | trivial | (rename_i hh; simp at hh)
   | min =>
    show Good _ _ _ _ _ _ _ (oMM h c false vl)
    cases hal with
    | nil => trivial
    | cons hx htl =>
     cases htl with
     | nil => unfold oMM; split <;> first | trivial | (rename_i hh; simp at hh)
     | cons hy htl2 =>
      cases htl2 with
      | nil => rw [ul2 hl]; exact qwe hr hx hy
      | cons _ _ => unfold oMM; split <;> first | trivial | (rename_i hh; simp at hh)
   | copy =>
    show Good _ _ _ _ _ _ _ (oCopy P h c ro vl ts.toList)
    cases hal with
    | nil => trivial
    | cons hx htl =>
     cases htl with
     | nil => trivial
     | cons hy htl2 =>
      cases htl2 with
      | nil =>
       rcases hts : ts.toList with _ | ⟨t, _ | ⟨t2, _ | _⟩⟩
       ·trivial
       ·trivial
       ·rw [ul2 hl, tsl2 hts]; exact qul hr hd hct hx hy
       ·trivial
      | cons _ _ => unfold oCopy; rcases ts.toList with _ | ⟨t, _ | ⟨t2, _ | _⟩⟩ <;> trivial
   | _ => trivial
 | _ => trivial
end
end Go.Ex
namespace Go.Ex
section
variable {P : Program} {gl : Nat → Bool}
theorem qa0 (s : S) : ∀ l : List Operand, (opnds gl l).run s = l.map fun x => (opnd gl x).run s
 | [] => rfl
 | x :: l => by
  show (opnd gl x).run s :: (opnds gl l).run s = _;rw [qa0 s l]; rfl
theorem qey (s : S) : ∀ l : List (Nat × Operand), (parts gl l).run s = l.map fun p => (p.1, (opnd gl p.2).run s)
 | [] => rfl
 | (i, x) :: l => by
  show (i, (opnd gl x).run s) :: (parts gl l).run s = _;rw [qey s l]; rfl
theorem qez (s : S) (x : Option Operand) : (opndO gl x).run s = x.map fun x => (opnd gl x).run s := by cases x <;> rfl
theorem qco (op : Op) (ro : Nat) (s : S) : (comp P gl op).run ro s = iop P s.h s.c ro op (fun x => (opnd gl x).run s) := by
 cases op with
 | build t ps => show oBuild _ _ _ _ _ = _; rw [qey]; rfl
 | buildSlice t n ps => show oBuildSlice _ _ _ _ _ _ = _; rw [qey]; rfl
 | makeFunc f first cap => show oMakeFunc _ _ _ _ _ = _; rw [qa0, qa0]; rfl
 | slice t x lo hi mx => show oSlice _ _ _ _ _ _ _ _ = _; rw [qez, qez, qez]; rfl
 | call cl =>
  obtain ⟨callee, as, ts⟩ := cl
  cases callee with
  | value f => show oCall _ _ = _; rw [qa0]; rfl
  | invoke _ _ => rfl
  | builtin b => show oBuiltin _ _ _ _ _ _ _ = _; rw [qa0]; rfl
 | _ => rfl
structure SR (w0 : World) (gl : Nat → Bool) (n : Nat) (ρ : Rh) (s : S) (a : Act) (w : World) : Prop where
 defers : a.defers = []
 size : a.tmps.size = n
 rel : Rel w0 ρ s.h w
 dom : Dom ρ s.c
 top : s.c ≤ 1048576
 glob : ∀ g, gl g = true → ρ g = some ⟨g, 0⟩
 tmps : ∀ i, VR w ρ (tmpV (s.t.get i)) (a.tmps.getD i undef)
theorem qmt {w0 : World} {n : Nat} {ρ : Rh} {s : S} {a : Act} {w : World} (h : SR w0 gl n ρ s a w) (x : Operand) : VR w ρ ((opnd gl x).run s) (a.eval x) := by
 cases x with
 | tmp i => exact h.tmps i
 | const v => exact .lit v
 | func f => exact .lit _
 | global g =>
  show VR w ρ (bif gl g then V.ptr g 0 else .lit (.pointer (some ⟨g, 0, none⟩))) _
  cases hg : gl g with
  | false => exact .lit _
  | true =>
   have := VR.ptr (w := w) (off := 0) (h.glob g hg);exact this
end
end Go.Ex
namespace Go.Ex
section
variable {P : Program} {gl : Nat → Bool} {GW : World → Prop} {ck : CallK} {n : Nat} {w0 : World} {ops : Array Oper} {ro : Nat}
def CKok (P : Program) (gl : Nat → Bool) (GW : World → Prop) (ck : CallK) : Prop := ∀ f as h c ro v h' c', ck f as h c ro = .ok (v, h', c') → Sim.Known P f ∧
 ∀ w0 ρ w (args : List Value), GW w0 → Rel w0 ρ h w → Dom ρ c → c ≤ 1048576 → (∀ g, gl g = true → ρ g = some ⟨g, 0⟩) → VL w ρ as args →
  Calls P f args.toArray w fun e w' => ∃ u ρ', e = .returned u ∧ Rel w0 ρ' h' w' ∧ Ext ro c ρ w ρ' w' c' ∧ VR w' ρ' v u
theorem qjk (hn : n ≤ 1048576) {ρ ρ' : Rh} {s s' : S} {a : Act} {w w' : World} {dst : Option Nat} {pos : String} {v : V} {u : Value} {h' : H} {c' : Nat} (hs : SR w0 gl n ρ s a w) (hp : compPut n dst pos s v h' c' = .ok s')
  (hr : Rel w0 ρ' h' w') (he : Ext ro s.c ρ w ρ' w' c') (hv : VR w' ρ' v u) : SR w0 gl n ρ' s' (a.put dst u) w' ∧ s'.c = c' := by
 unfold compPut at hp
 cases dst with
 | none =>
  simp only [Re.ok.injEq] at hp;subst hp;exact ⟨⟨hs.defers, hs.size, hr, he.dom hs.dom, he.cap hs.top, fun g hg => he.sub _ _ (hs.glob g hg), fun i => he.vr (hs.tmps i)⟩, rfl⟩
 | some d =>
  dsimp only at hp
  cases hd : Nat.blt d n with
  | false => rw [hd] at hp; cases hp
  | true =>
   rw [hd, cond_true] at hp;simp only [Re.ok.injEq] at hp;subst hp;have hdn : d < n := Nat.le_of_ble_eq_true hd;refine ⟨⟨by rw [Sim.defers_put]; exact hs.defers, by rw [Sim.size_put]; exact hs.size, hr, he.dom hs.dom, he.cap hs.top, fun g hg => he.sub _ _ (hs.glob g hg), fun i => ?_⟩, rfl⟩;rw [Sim.getD_put _ _ _ (fun d' h => by cases h; rw [hs.size]; exact hdn)];have hgs : (Tr.setP v (path d) s.t).get i = if i = d then some v else s.t.get i := qee (t := s.t) (m := i) (by omega);rw [hgs]
   by_cases hi : i = d
   ·subst hi; simp only [if_true]; exact hv
   ·rw [if_neg hi, if_neg (by simp; omega)];exact he.vr (hs.tmps i)
theorem qjl (hn : n ≤ 1048576) (hgw : GW w0) (hck : CKok P gl GW ck) {o : Oper} {ρ : Rh} {s s' : S} {a : Act} {w : World} (hs : SR w0 gl n ρ s a w) (hrun : stepR n ck o ro s ((comp P gl o.op).run ro s) = .ok s') {K : Act → World → Prop} {Q : Exit → Act → World → Prop}
  (hK : ∀ ρ' a' w', SR w0 gl n ρ' s' a' w' → Ext ro s.c ρ w ρ' w' s'.c → K a' w') : o.wp P a w K Q := by
 have hg := qgo (P := P) (ro := ro) (o := o) (e := a.eval) hs.rel hs.dom hs.top (fun x _ => qmt hs x);rw [qco] at hrun;unfold stepR at hrun
 cases hi : iop P s.h s.c ro o.op (fun x => (opnd gl x).run s) with
 | none => rw [hi] at hrun; cases hrun
 | some r =>
  rw [hi] at hrun hg
  cases r with
  | val v h' c' =>
   dsimp only at hrun;have hg' : UponE w0 ro s.c ρ w v h' c' ((execOp a.eval o).run P w) := hg;unfold Oper.wp;generalize (execOp a.eval o).run P w = res at hg'
   cases res with
   | halt => exact hg'.elim
   | ok nx w' =>
    cases nx <;> simp only [UponE] at hg' <;> simp only [Oper.upon]
    case value u =>
     obtain ⟨ρ', h1, h2, h3⟩ := hg';obtain ⟨g1, g2⟩ := qjk hn hs hrun h1 h2 h3;exact hK ρ' _ _ g1 (by rw [g2]; exact h2)
    case skip =>
     obtain ⟨ρ', h1, h2, h3⟩ := hg';obtain ⟨g1, g2⟩ := qjk hn hs hrun h1 h2 h3;exact hK ρ' _ _ g1 (by rw [g2]; exact h2)
  | call f as =>
   dsimp only at hrun
   cases hc : ck f as s.h s.c ro with
   | no why => rw [hc] at hrun; cases hrun
   | ok vhc =>
    obtain ⟨v, h', c'⟩ := vhc;rw [hc] at hrun;dsimp only at hrun;obtain ⟨args, g1, g2⟩ : ∃ args : List Value, (execOp a.eval o).run P w = (callFunc f args.toArray).run P w ∧ VL w ρ as args := hg;obtain ⟨⟨fn, k1, k2, k3⟩, hcall⟩ := hck f as s.h s.c ro v h' c' hc;have hcl := hcall w0 ρ w args hgw hs.rel hs.dom hs.top hs.glob g2;unfold Oper.wp;rw [g1, Sim.run_callFunc k1 k2 k3];simp only [Oper.upon];refine hcl.mono ?_;rintro e w' ⟨u, ρ', rfl, h1, h2, h3⟩;obtain ⟨g3, g4⟩ := qjk hn hs hrun h1 h2 h3;exact hK ρ' _ _ g3 (by rw [g4]; exact h2)
theorem qr4 (hn : n ≤ 1048576) (hgw : GW w0) (hck : CKok P gl GW ck) {o : Oper} {ρ : Rh} {s s' : S} {a : Act} {w : World} (hs : SR w0 gl n ρ s a w) (hrun : (compOp P gl n ck ops o).run ro s = .ok s') {K : Act → World → Prop} {Q : Exit → Act → World → Prop}
  (hK : ∀ ρ' a' w', SR w0 gl n ρ' s' a' w' → Ext ro s.c ρ w ρ' w' s'.c → K a' w') :
  if Region.wanted o (yielded ops a.tmps) then o.wp P a w K Q ∨ (o.asks P a w ∧ LetsOut Q) else K (a.put o.dst undef) w := by
 unfold compOp at hrun
 cases hg : o.guard with
 | none =>
  rw [hg] at hrun;dsimp only at hrun
  have : Region.wanted o (yielded ops a.tmps) = true := by simp [Region.wanted, hg]
  rw [this];simp only [if_true];exact .inl (qjl hn hgw hck hs hrun hK)
 | some jw =>
  obtain ⟨j, want⟩ := jw;rw [hg] at hrun;dsimp only at hrun
  have key : ∀ b, (compW ops o).run s = some b → Region.wanted o (yielded ops a.tmps) = b := by
   intro b hb;unfold compW at hb;rw [hg] at hb;dsimp only at hb
   cases hd : (ops[j]?).bind (·.dst) with
   | none => rw [hd] at hb; cases hb
   | some d =>
    rw [hd] at hb;dsimp only at hb;have ht := hs.tmps d;rw [Array.getD_eq_getD_getElem?] at ht;have hb' : isWant want (tmpV (s.t.get d)) = some b := hb;unfold Region.wanted;simp only [hg, yielded, hd, Option.bind_some];unfold isWant at hb'
    split at hb'
    ·rename_i b0 hv
     rw [hv] at ht;have := ht.lit_inv
     cases hq : a.tmps[d]? with
     | none => rw [hq] at this; simp [undef] at this
     | some x =>
      rw [hq] at this;simp only [Option.getD_some] at this;subst this
      simpa using hb'
    ·rename_i v0 hnb hv
     rw [hv] at ht;have := ht.lit_inv;simp only [Option.some.injEq] at hb';subst hb'
     cases hq : a.tmps[d]? with
     | none => rfl
     | some x =>
      rw [hq] at this;simp only [Option.getD_some] at this;subst this
      cases x <;> first | rfl | exact absurd rfl (hnb _)
    ·cases hb'
  unfold guarded at hrun
  cases hw : (compW ops o).run s with
  | none => rw [hw] at hrun; cases hrun
  | some b =>
   rw [hw] at hrun;rw [key b hw]
   cases b with
   | true =>
    simp only [if_true];exact .inl (qjl hn hgw hck hs hrun hK)
   | false =>
    simp only [Bool.false_eq_true, if_false];dsimp only at hrun;obtain ⟨g1, g2⟩ := qjk (ro := ro) hn hs hrun hs.rel Ext.refl (.lit undef);exact hK ρ _ _ g1 (by rw [g2]; exact Ext.refl)
theorem qjm (hn : n ≤ 1048576) (hgw : GW w0) (hck : CKok P gl GW ck) {Q : Exit → Act → World → Prop} : ∀ (l : List Oper) {ρ : Rh} {s s' : S} {a : Act} {w : World}, SR w0 gl n ρ s a w → (compOps P gl n ck ops l).run ro s = .ok s' →
  (∀ ρ' a' w', SR w0 gl n ρ' s' a' w' → Ext ro s.c ρ w ρ' w' s'.c → Q .normal a' w') → wpList P ops Q l a w
 | [], ρ, s, s', a, w, hs, hrun, hQ => by
  simp only [compOps, Re.ok.injEq] at hrun;subst hrun;exact hQ ρ a w hs Ext.refl
 | o :: l, ρ, s, s', a, w, hs, hrun, hQ => by
  simp only [compOps] at hrun
  cases h1 : (compOp P gl n ck ops o).run ro s with
  | no why => rw [h1] at hrun; cases hrun
  | ok s1 =>
   rw [h1] at hrun;have hrun' : (compOps P gl n ck ops l).run ro s1 = .ok s' := hrun;exact qr4 hn hgw hck hs h1 fun ρ1 a1 w1 hs1 he1 => qjm hn hgw hck l hs1 hrun' fun ρ' a' w' hs' he' => hQ ρ' a' w' hs' (he1.trans he')
end
end Go.Ex
namespace Go.Ex
section
variable {P : Program} {gl : Nat → Bool} {GW : World → Prop} {ck : CallK} {n : Nat} {w0 : World} {ro : Nat}
def DrawOk (P : Program) (gl : Nat → Bool) (ck : CallK) (n : Nat) (w0 : World) (ro : Nat) : Prop := ∀ (ops : Array Oper) (Q : Exit → Act → World → Prop) (ρ : Rh) (s s' : S) (a : Act) (w : World), orderOk ops = true → SR w0 gl n ρ s a w →
 (compOpsD P gl n ck ops ops.toList 0).run ro s = .ok s' → (∀ ρ' a' w', SR w0 gl n ρ' s' a' w' → Ext ro s.c ρ w ρ' w' s'.c → Q .normal a' w') → wpAny P .any ops Q ops.size (Array.replicate ops.size false) a { w with drawn := w.drawn + 1 }
def CodeOk (P : Program) (gl : Nat → Bool) (n : Nat) (w0 : World) (ro : Nat) (c : Code) (f : S → Re (Exit × S)) : Prop := ∀ {ρ : Rh} {s s' : S} {a : Act} {w : World} {x : Exit}, SR w0 gl n ρ s a w → f s = .ok (x, s') →
 c.wp P (fun x' a' w' => x' = x ∧ ∃ ρ', SR w0 gl n ρ' s' a' w' ∧ Ext ro s.c ρ w ρ' w' s'.c) a w
theorem qmu {x : Re (Exit × S)} {k : S → Re (Exit × S)} {r : Exit × S} (h : thenC x k = .ok r) : (∃ s, x = .ok (.normal, s) ∧ k s = .ok r) ∨ (x = .ok r ∧ r.1 ≠ .normal) := by
 unfold thenC at h
 split at h
 ·exact .inl ⟨_, rfl, h⟩
 ·rename_i hno
  subst h;refine .inr ⟨rfl, fun e => ?_⟩;obtain ⟨e1, s1⟩ := r;simp only at e;subst e;exact hno s1 rfl
theorem qr5 (mo : P.follows .mixedOrders = true) (hn : n ≤ 1048576) (hgw : GW w0) (hck : CKok P gl GW ck) (hdr : DrawOk P gl ck n w0 ro) : ∀ c : Code, CodeOk P gl n w0 ro c ((compC P gl n ck c).run ro) := by
 intro c
 induction c with
 | skip => intro ρ s s' a w x hs h; cases h; exact wp_skip ⟨rfl, ρ, hs, Ext.refl⟩
 | label l => intro ρ s s' a w x hs h; cases h; exact wp_label ⟨rfl, ρ, hs, Ext.refl⟩
 | ret => intro ρ s s' a w x hs h; cases h; exact wp_ret ⟨rfl, ρ, hs, Ext.refl⟩
 | exit id => intro ρ s s' a w x hs h; cases h; exact wp_exit ⟨rfl, ρ, hs, Ext.refl⟩
 | region id ops draw =>
  intro ρ s s' a w x hs h
  cases draw with
  | false =>
   have h' : norm ((compOps P gl n ck ops ops.toList).run ro s) (fun s => Re.ok (Exit.normal, s)) = .ok (x, s') := h
   cases h1 : (compOps P gl n ck ops ops.toList).run ro s with
   | no why => rw [h1] at h'; cases h'
   | ok s1 =>
    rw [h1] at h'
    cases h'
    exact wp_region_list (qjm hn hgw hck _ hs h1 fun ρ' a' w' g1 g2 => ⟨rfl, ρ', g1, g2⟩)
  | true =>
   unfold compC at h
   cases ho : orderOk ops with
   | false => rw [ho] at h; cases h
   | true =>
    rw [ho] at h;have h' : norm ((compOpsD P gl n ck ops ops.toList 0).run ro s) (fun s => Re.ok (Exit.normal, s)) = .ok (x, s') := h
    cases h1 : (compOpsD P gl n ck ops ops.toList 0).run ro s with
    | no why => rw [h1] at h'; cases h'
    | ok s1 =>
     rw [h1] at h'
     cases h'
     exact wp_region_any mo (hdr ops _ ρ s _ a w ho hs h1 fun ρ' a' w' g1 g2 => ⟨rfl, ρ', g1, g2⟩)
 | seq p q ihp ihq =>
  intro ρ s s' a w x hs h;have h' : thenC ((compC P gl n ck p).run ro s) (fun s => (compC P gl n ck q).run ro s) = .ok (x, s') := h;refine wp_seq ?_
  rcases qmu h' with ⟨s1, h1, h2⟩ | ⟨h1, h2⟩
  ·refine wp_mono (ihp hs h1) ?_;rintro e a1 w1 ⟨rfl, ρ1, g1, g2⟩;refine wp_mono (ihq g1 h2) ?_;rintro e a2 w2 ⟨rfl, ρ2, g3, g4⟩;exact ⟨rfl, ρ2, g3, g2.trans g4⟩
  ·refine wp_mono (ihp hs h1) ?_;rintro e a1 w1 ⟨rfl, ρ1, g1, g2⟩
   cases e <;> first | exact absurd rfl h2 | exact ⟨rfl, ρ1, g1, g2⟩
 | cond v p q ihp ihq =>
  intro ρ s s' a w x hs h;have h' : condC ((opnd gl v).run s) ((compC P gl n ck p).run ro s) ((compC P gl n ck q).run ro s) = .ok (x, s') := h;have hv := qmt hs v;unfold condC at h'
  split at h'
  ·rename_i hb; rw [hb] at hv
   exact wp_cond_true hv.lit_inv (ihp hs h')
  ·rename_i hb; rw [hb] at hv
   exact wp_cond_false hv.lit_inv (ihq hs h')
  ·cases h'
 | block id p ih =>
  intro ρ s s' a w x hs h;have h' : blockC id ((compC P gl n ck p).run ro s) = .ok (x, s') := h;refine wp_block ?_
  cases h1 : (compC P gl n ck p).run ro s with
  | no why => rw [h1] at h'; cases h'
  | ok r =>
   obtain ⟨e, s1⟩ := r;rw [h1] at h';refine wp_mono (ih hs h1) ?_;rintro e' a1 w1 ⟨rfl, ρ1, g1, g2⟩
   cases e' with
   | exit id' =>
    simp only [blockC] at h';unfold Exit.inBlock;dsimp only
    cases hb : Nat.beq id' id with
    | true =>
     rw [hb] at h'; cases h';rw [if_pos (Nat.eq_of_beq_eq_true hb)];exact ⟨rfl, ρ1, g1, g2⟩
    | false =>
     rw [hb] at h'; cases h';rw [if_neg (fun e => by rw [e, Nat.beq_refl] at hb; cases hb)];exact ⟨rfl, ρ1, g1, g2⟩
   | _ => simp only [blockC] at h'; cases h'; exact ⟨rfl, ρ1, g1, g2⟩
 | loop p ih =>
  intro ρ s s' a w x hs h;have h' : loopN (fun s => (compC P gl n ck p).run ro s) 100000 s = .ok (x, s') := h;refine wp_loop_rounds 100000 ?_;have key : ∀ (m : Nat) {ρ1 : Rh} {s1 : S} {a1 : Act} {w1 : World}, SR w0 gl n ρ1 s1 a1 w1 → Ext ro s.c ρ w ρ1 w1 s1.c → loopN (fun s => (compC P gl n ck p).run ro s) m s1 = .ok (x, s') →
    Code.rounds P p (fun x' a' w' => x' = x ∧ ∃ ρ', SR w0 gl n ρ' s' a' w' ∧ Ext ro s.c ρ w ρ' w' s'.c) m a1 w1 := by
   intro m
   induction m with
   | zero => intro ρ1 s1 a1 w1 _ _ h; cases h
   | succ m ihm =>
    intro ρ1 s1 a1 w1 hs1 he1 h;have h2 : thenC ((compC P gl n ck p).run ro s1) (loopN (fun s => (compC P gl n ck p).run ro s) m) = .ok (x, s') := h;rw [rounds_succ]
    rcases qmu h2 with ⟨s2, h3, h4⟩ | ⟨h3, h4⟩
    ·refine wp_mono (ih hs1 h3) ?_;rintro e a2 w2 ⟨rfl, ρ2, g1, g2⟩;exact ihm g1 (he1.trans g2) h4
    ·refine wp_mono (ih hs1 h3) ?_;rintro e a2 w2 ⟨rfl, ρ2, g1, g2⟩
     cases e <;> first | exact absurd rfl h4 | exact ⟨rfl, ρ2, g1, he1.trans g2⟩
  exact key 100000 hs Ext.refl h'
 | scope p ih =>
  intro ρ s s' a w x hs h;have h' : scopeC ((compC P gl n ck p).run ro s) = .ok (x, s') := h;refine wp_scope_straight ?_
  cases h1 : (compC P gl n ck p).run ro s with
  | no why => rw [h1] at h'; cases h'
  | ok r =>
   obtain ⟨e, s1⟩ := r;rw [h1] at h';refine wp_mono (ih hs h1) ?_;rintro e' a1 w1 ⟨rfl, ρ1, g1, g2⟩
   cases e' <;> first | (cases h'; done) | (cases h'; exact ⟨rfl, ρ1, g1, g2⟩)
 | _ => intro ρ s s' a w x hs h; cases h
end
end Go.Ex
namespace Go.Ex
def Keep (ro c : Nat) (h h' : H) : Prop := ∀ id, id < ro → id < c → h'.get id = h.get id
theorem Keep.refl {ro c : Nat} {h : H} : Keep ro c h h := fun _ _ _ => rfl
theorem Keep.trans {ro c c1 : Nat} {h h1 h2 : H} (a : Keep ro c h h1) (b : Keep ro c1 h1 h2) (le : c ≤ c1) : Keep ro c h h2 := fun id i1 i2 => (b id i1 (Nat.lt_of_lt_of_le i2 le)).trans (a id i1 i2)
def KR (ro c : Nat) (h : H) : Option R → Prop
 | some (.val _ h' c') => Keep ro c h h' ∧ c ≤ c' ∧ (c ≤ 1048576 → c' ≤ 1048576)
 | _ => True
section
variable {P : Program} {h : H} {c ro : Nat}
theorem vt {v : V} : KR ro c h (same h c v) := ⟨Keep.refl, Nat.le_refl _, fun h => h⟩
theorem qe0 {v : Option V} : KR ro c h (sameO h c v) := by cases v <;> first | trivial | exact vt
theorem qh3 {e : Sem Value} : KR ro c h (plain h c e) := by
 unfold plain
 cases e <;> first | trivial | (simp only [xk]; exact ⟨Keep.refl, Nat.le_refl _, fun h => h⟩)
theorem qcp {k : IntKind} {n : Int} : KR ro c h (intV h c k n) := by unfold intV; rw [qae]; exact ⟨Keep.refl, Nat.le_refl _, fun h => h⟩
theorem qh4 {b : Bool} : KR ro c h (boolV h c b) := by cases b <;> exact ⟨Keep.refl, Nat.le_refl _, fun h => h⟩
theorem qgp {b : B} {v : V} : KR ro c h (new h c b v) := by
 unfold new
 cases hc : Nat.blt c top with
 | false => trivial
 | true =>
  have hc : c < 1048576 := Nat.le_of_ble_eq_true hc;exact ⟨fun id _ h2 => by rw [jl hc, if_neg (by omega)], Nat.le_succ _, fun _ => hc⟩
theorem qjn (hct : c ≤ 1048576) {id : Nat} {b : B} (hro : ro ≤ id) : Keep ro c h (hset h id b) := fun i h1 h2 => by
 unfold hset Tr.get Tr.set;rw [qaf, if_neg];intro e;have := qiq (n := id) (m := i) (by omega) e.symm
 omega
theorem qmv (hct : c ≤ 1048576) {id : Nat} {b : B} {v : V} (hro : Nat.ble ro id = true) : KR ro c h (some (.val v (hset h id b) c)) := ⟨qjn hct (Nat.le_of_ble_eq_true hro), Nat.le_refl _, fun h => h⟩
theorem andl {a b : Bool} (h : (a && b) = true) : a = true := by cases a <;> simp_all
theorem qr6 (hct : c ≤ 1048576) {t : TypeId} {a x : V} : KR ro c h (oStore P h c ro t a x) := by
 unfold oStore;simp only [cond_eq_ite]
 repeat' split
 all_goals first | trivial | (rename_i hb; exact qmv hct (andl (andl (andl hb))))
theorem qr7 {op : BinOp} {k : IntKind} {a b : Int} : KR ro c h (intOp h c op k a b) := by
 unfold intOp
 cases op <;> first | trivial | exact qcp | exact qh4 | exact qh3 | (cases eqI b 0 <;> first | trivial | exact qcp)
theorem qo6 {op : BinOp} {k k' : IntKind} {a b : Int} : KR ro c h (intOp2 h c op k k' a b) := by
 unfold intOp2
 cases op <;> first | exact qh3 | (dsimp only; cases decide (k = k') <;> first | trivial | (simp only [cond_true]; exact qr7))
theorem qr8 {op : BinOp} {t : TypeId} {x y : V} : KR ro c h (binop P h c op t x y) := by
 have ha : ∀ x y, KR ro c h (eqA P h c op t x y) := by
  intro x y;unfold eqA
  split <;> first | trivial | exact qh4
 unfold binop binop2
 repeat' split
 ·exact qo6
 ·unfold strB; split <;> first | trivial | (simp only [xk]; exact ⟨Keep.refl, Nat.le_refl _, fun h => h⟩)
 ·unfold eqB; split <;> first | trivial | exact qh4
 ·exact ha _ _
 ·exact ha _ _
theorem qo7 {k id off n m : Nat} {l : List V} : KR ro c h (appNew h c k id off n m l) := by
 unfold appNew
 split
 ·rw [zf]; exact qgp
 ·trivial
theorem qr9 (hct : c ≤ 1048576) {k id off n m : Nat} {l : List V} : KR ro c h (appIn h c ro k id off n m l) := by
 unfold appIn
 split
 ·cases hc : (Nat.ble ro id && Nat.beq (off + n * k) _ && Nat.blt c top) with
  | false => trivial
  | true =>
   rw [cond_true, zf];simp only [Bool.and_eq_true] at hc;have h1 := Nat.le_of_ble_eq_true hc.1.1;have h2 : c < 1048576 := Nat.le_of_ble_eq_true hc.2;refine ⟨fun i g1 g2 => ?_, Nat.le_succ _, fun _ => h2⟩;rw [jl h2, if_neg (by omega)];exact qjn hct h1 i g1 g2
 ·trivial
theorem qo8 (hct : c ≤ 1048576) {t : TypeId} {s x : V} : KR ro c h (append P h c ro t s x) := by
 unfold append
 split
 ·trivial
 ·cases (Nat.beq _ 0 || Nat.beq _ 0) with
  | true => trivial
  | false =>
   rw [cond_false]
   split
   ·trivial
   ·cases Nat.beq _ 0 with
    | true => trivial
    | false =>
     rw [cond_false];unfold appS
     split
     ·cases small _ _ with
      | false => trivial
      | true => rw [cond_true, zf]; exact qgp
     ·cases (Nat.beq _ _ && small _ _) with
      | false => trivial
      | true =>
       rw [cond_true]
       split
       ·cases Nat.blt _ _ with
        | false => trivial
        | true => rw [cond_true]; exact qo7
       ·exact qr9 hct
     ·trivial
theorem qh5 (hct : c ≤ 1048576) {t : TypeId} {m k v : V} : KR ro c h (oMapUpdate P h c ro t m k v) := by
 unfold oMapUpdate;simp only [cond_eq_ite]
 repeat' split
 all_goals first | trivial | (rename_i hb _ _ _; exact qmv hct (by simp only [Bool.and_eq_true] at hb; exact hb.2)) | (rename_i hb _ _; exact qmv hct (by simp only [Bool.and_eq_true] at hb; exact hb.2))
theorem qsa (hct : c ≤ 1048576) {k id off n id2 off2 m : Nat} : KR ro c h (copyV h c ro k id off n id2 off2 m) := by
 unfold copyV
 cases hc : (Nat.beq n m && Nat.ble ro id && Nat.blt 0 n) with
 | false => trivial
 | true =>
  rw [cond_true];simp only [Bool.and_eq_true] at hc
  split
  ·cases Nat.ble _ _ with
   | false => trivial
   | true => rw [cond_true]; exact qmv hct hc.1.2
  ·trivial
theorem qun (hct : c ≤ 1048576) {as : List V} {ts : List TypeId} : KR ro c h (oCopy P h c ro as ts) := by
 unfold oCopy;simp only [cond_eq_ite]
 repeat' split
 all_goals first | trivial | exact vt | exact qsa hct
theorem qup (hct : c ≤ 1048576) {i : V} {str : Bool} : KR ro c h (oNext h c ro i str) := by
 unfold oNext nextS;simp only [cond_eq_ite]
 repeat' split
 all_goals first | trivial | exact vt | (rename_i hb; rw [zf, zf]; exact qmv hct (by simp only [Bool.and_eq_true] at hb; exact hb.2))
theorem qsb {id off k : Nat} {cap : Option Nat} {a b : Option Nat} : KR ro c h (cutSl h c id off k cap a b) := by
 unfold cutSl
 split
 ·rw [zf, zf]; exact vt
 ·trivial
theorem qsc {t : TypeId} {x : V} {lo hi mx : Option V} : KR ro c h (oSlice P h c t x lo hi mx) := by
 unfold oSlice slS slX slSl slNil slStr slArr;simp only [cond_eq_ite]
 repeat' split
 all_goals first | trivial | exact vt | exact qsb
theorem quq {e : TypeId} {x : V} {i : Int} {n : Nat} : KR ro c h (elemAt P h c e x i n) := by
 unfold elemAt;simp only [cond_eq_ite]
 repeat' split
 all_goals first | trivial | (rw [zf]; exact vt)
theorem qwf (hct : c ≤ 1048576) {op : Op} {ev : Ev} : KR ro c h (iop P h c ro op ev) := by
 cases op with
 | move x => exact vt
 | assign x => exact vt
 | pick b x y => show KR _ _ _ (oPick _ _ _ _ _); unfold oPick; split <;> first | trivial | exact vt
 | alloc t => show KR _ _ _ (oAlloc _ _ _ _); unfold oAlloc; simp only [cond_eq_ite]; (repeat' split); all_goals first | trivial | exact qgp
 | box t x => show KR _ _ _ (oBox _ _ _); unfold oBox; simp only [cond_eq_ite]; split <;> first | trivial | exact qgp
 | load t a => show KR _ _ _ (oLoad _ _ _ _ _); unfold oLoad; (repeat' split); all_goals first | trivial | exact qe0
 | store t a x => exact qr6 hct
 | nilCheck x => show KR _ _ _ (oNil _ _ _); unfold oNil; split <;> first | trivial | exact vt
 | binOp op t x y t' => exact qr8
 | unOp op t x => show KR _ _ _ (oUn _ _ _ _); unfold oUn; split <;> first | trivial | exact qh3
 | convert s t x => show KR _ _ _ (oConv _ _ _ _ _ _); unfold oConv; split <;> first | trivial | exact qcp
 | fieldAddr s x i => show KR _ _ _ (oFieldAddr _ _ _ _ _ _); unfold oFieldAddr; split <;> first | trivial | (rw [zf]; exact vt)
 | field s x i => show KR _ _ _ (oField _ _ _ _ _ _); unfold oField; simp only [cond_eq_ite]; (repeat' split); all_goals first | trivial | exact qe0
 | indexAddr t x i => show KR _ _ _ (oIndexAddr _ _ _ _ _ _); unfold oIndexAddr; simp only [cond_eq_ite]; (repeat' split); all_goals first | trivial | exact quq
 | index t x i => show KR _ _ _ (oIndex _ _ _ _ _ _); unfold oIndex idxS; (repeat' split); all_goals first | trivial | exact qe0 | exact qcp
 | build t ps => show KR _ _ _ (oBuild _ _ _ _ _); unfold oBuild; simp only [cond_eq_ite]; (repeat' split); all_goals first | trivial | exact vt
 | buildSlice t n ps => show KR _ _ _ (oBuildSlice _ _ _ _ _ _); unfold oBuildSlice; simp only [cond_eq_ite]; (repeat' split); all_goals first | trivial | exact qgp
 | makeFunc f first cap => show KR _ _ _ (oMakeFunc _ _ _ _ _); unfold oMakeFunc; split <;> first | trivial | exact vt
 | makeMap t r => show KR _ _ _ (oMakeMap _ _ _ _ _); unfold oMakeMap; split <;> first | trivial | exact qgp
 | lookup t m k ok => show KR _ _ _ (oLookup _ _ _ _ _ _ _); unfold oLookup found; simp only [cond_eq_ite]; (repeat' split); all_goals first | trivial | exact vt
 | mapUpdate t m k v => exact qh5 hct
 | range t x => show KR _ _ _ (oRange _ _ _ _ _); unfold oRange; split <;> first | trivial | exact qgp
 | next i str => exact qup hct
 | makeSlice t l cp => show KR _ _ _ (oMakeSlice _ _ _ _ _ _); unfold oMakeSlice; simp only [cond_eq_ite]; (repeat' split); all_goals first | trivial | (rw [zf]; exact qgp)
 | slice t x lo hi mx => exact qsc
 | extract x i => show KR _ _ _ (oExtract _ _ _ _); unfold oExtract; split <;> first | trivial | exact qe0
 | call cl =>
  obtain ⟨callee, as, ts⟩ := cl
  cases callee with
  | invoke _ _ => trivial
  | value f => show KR _ _ _ (oCall _ _); unfold oCall; split <;> trivial
  | builtin b =>
   show KR _ _ _ (oBuiltin _ _ _ _ _ _ _)
   cases b with
   | len => show KR _ _ _ (oLen _ _ _ _ _); unfold oLen lenV; (repeat' split); all_goals first | trivial | exact vt | exact qcp
   | append => show KR _ _ _ (oAppend _ _ _ _ _ _); unfold oAppend appNil; simp only [cond_eq_ite]; (repeat' split); all_goals first | trivial | exact vt | exact qo8 hct
   | max => show KR _ _ _ (oMM _ _ _ _); unfold oMM; split <;> first | trivial | exact qcp
   | min => show KR _ _ _ (oMM _ _ _ _); unfold oMM; split <;> first | trivial | exact qcp
   | copy => exact qun hct
   | _ => trivial
 | _ => trivial
end
end Go.Ex
namespace Go.Ex
section
variable {P : Program} {gl : Nat → Bool} {ck : CallK} {n ro : Nat} {ops : Array Oper}
def Kp (ro : Nat) (s : S) (s' : S) : Prop := Keep ro s.c s.h s'.h ∧ s.c ≤ s'.c ∧ s'.c ≤ 1048576
def CKK (ck : CallK) : Prop := ∀ f as h c ro v h' c', ck f as h c ro = .ok (v, h', c') → c ≤ 1048576 → Keep ro c h h' ∧ c ≤ c' ∧ c' ≤ 1048576
theorem Kp.refl {s : S} (h : s.c ≤ 1048576) : Kp ro s s := ⟨Keep.refl, Nat.le_refl _, h⟩
theorem Kp.trans {a b c : S} (h : Kp ro a b) (k : Kp ro b c) : Kp ro a c := ⟨h.1.trans k.1 h.2.1, Nat.le_trans h.2.1 k.2.1, k.2.2⟩
theorem qsd {d : Option Nat} {pos : String} {s s' : S} {v : V} {h : H} {c : Nat} (hp : compPut n d pos s v h c = .ok s') : s'.h = h ∧ s'.c = c := by
 unfold compPut at hp
 cases d with
 | none => cases hp; exact ⟨rfl, rfl⟩
 | some d =>
  dsimp only at hp
  cases hd : Nat.blt d n with
  | false => rw [hd] at hp; cases hp
  | true => rw [hd, cond_true] at hp; cases hp; exact ⟨rfl, rfl⟩
theorem qmw (hck : CKK ck) {o : Oper} {s s' : S} (hc : s.c ≤ 1048576) (h : stepR n ck o ro s ((comp P gl o.op).run ro s) = .ok s') : Kp ro s s' := by
 rw [qco] at h;have hk := qwf (P := P) (h := s.h) (c := s.c) (ro := ro) (op := o.op) (ev := fun x => (opnd gl x).run s) hc;unfold stepR at h
 cases hi : iop P s.h s.c ro o.op (fun x => (opnd gl x).run s) with
 | none => rw [hi] at h; cases h
 | some r =>
  rw [hi] at h hk
  cases r with
  | val v h' c' =>
   obtain ⟨g1, g2⟩ := qsd h;obtain ⟨k1, k2, k3⟩ := hk;exact ⟨by rw [g1]; exact k1, by rw [g2]; exact k2, by rw [g2]; exact k3 hc⟩
  | call f as =>
   dsimp only at h
   cases hcl : ck f as s.h s.c ro with
   | no why => rw [hcl] at h; cases h
   | ok vhc =>
    obtain ⟨v, h', c'⟩ := vhc;rw [hcl] at h;obtain ⟨g1, g2⟩ := qsd h;obtain ⟨k1, k2, k3⟩ := hck f as _ _ _ _ _ _ hcl hc;exact ⟨by rw [g1]; exact k1, by rw [g2]; exact k2, by rw [g2]; exact k3⟩
theorem qd4 (hck : CKK ck) {o : Oper} {s s' : S} (hc : s.c ≤ 1048576) (h : (compOp P gl n ck ops o).run ro s = .ok s') : Kp ro s s' := by
 unfold compOp at h
 cases hg : o.guard with
 | none => rw [hg] at h; exact qmw hck hc h
 | some jw =>
  rw [hg] at h;dsimp only at h;unfold guarded at h
  split at h
  ·cases h
  ·obtain ⟨g1, g2⟩ := qsd h;exact ⟨by rw [g1]; exact Keep.refl, by rw [g2]; exact Nat.le_refl _, by rw [g2]; exact hc⟩
  ·exact qmw hck hc h
end
end Go.Ex
namespace Go.Ex
section
variable {P : Program} {gl : Nat → Bool} {ck : CallK} {n ro : Nat} {ops : Array Oper}
theorem qad {α β : Type} {x : Re α} {k : α → Re β} {r : β} (h : norm x k = .ok r) : ∃ s, x = .ok s ∧ k s = .ok r := by
 cases x with
 | ok s => exact ⟨s, rfl, h⟩
 | no w => cases h
theorem Kp.any {s s' : S} (h : Kp s.c s s') : Kp ro s s' := ⟨fun id _ h2 => h.1 id h2 h2, h.2⟩
theorem qmx (hck : CKK ck) : ∀ (l : List Oper) {s s' : S}, s.c ≤ 1048576 → (compOps P gl n ck ops l).run ro s = .ok s' → Kp ro s s'
 | [], s, s', hc, h => by
  simp only [compOps, Re.ok.injEq] at h;subst h;exact Kp.refl hc
 | o :: l, s, s', hc, h => by
  simp only [compOps] at h;obtain ⟨s1, h1, h2⟩ := qad h;have k1 := qd4 hck hc h1;exact k1.trans (qmx hck l k1.2.2 h2)
theorem qe1 (hck : CKK ck) : ∀ (l : List Oper) (j : Nat) {s s' : S}, s.c ≤ 1048576 → (compOpsD P gl n ck ops l j).run ro s = .ok s' → Kp ro s s'
 | [], j, s, s', hc, h => by
  simp only [compOpsD, Re.ok.injEq] at h;subst h;exact Kp.refl hc
 | o :: l, j, s, s', hc, h => by
  simp only [compOpsD] at h
  cases hf : fixed ops j o with
  | true =>
   rw [hf] at h;obtain ⟨s1, h1, h2⟩ := qad h;have k1 := qd4 hck hc h1;exact k1.trans (qe1 hck l (j + 1) k1.2.2 h2)
  | false =>
   rw [hf] at h;obtain ⟨s1, h1, h2⟩ := qad h;have k1 := (qd4 hck hc h1).any (ro := ro);exact k1.trans (qe1 hck l (j + 1) k1.2.2 h2)
theorem qjo {x : Re (Exit × S)} {k : S → Re (Exit × S)} {r : Exit × S} (h : thenC x k = .ok r) : (∃ s, x = .ok (.normal, s) ∧ k s = .ok r) ∨ x = .ok r := by
 unfold thenC at h
 split at h
 ·exact .inl ⟨_, rfl, h⟩
 ·exact .inr h
theorem qur (hck : CKK ck) : ∀ c : Code, ∀ {s s' : S} {x : Exit}, s.c ≤ 1048576 → (compC P gl n ck c).run ro s = .ok (x, s') → Kp ro s s' := by
 intro c
 induction c with
 | skip => intro s s' x hc h; cases h; exact Kp.refl hc
 | label l => intro s s' x hc h; cases h; exact Kp.refl hc
 | ret => intro s s' x hc h; cases h; exact Kp.refl hc
 | exit id => intro s s' x hc h; cases h; exact Kp.refl hc
 | region id ops draw =>
  intro s s' x hc h
  cases draw with
  | false =>
   obtain ⟨s1, h1, h2⟩ := qad (show norm ((compOps P gl n ck ops ops.toList).run ro s) (fun s => Re.ok (Exit.normal, s)) = .ok (x, s') from h)
   cases h2
   exact qmx hck _ hc h1
  | true =>
   unfold compC at h
   cases ho : orderOk ops with
   | false => rw [ho] at h; cases h
   | true =>
    rw [ho] at h;obtain ⟨s1, h1, h2⟩ := qad (show norm ((compOpsD P gl n ck ops ops.toList 0).run ro s) (fun s => Re.ok (Exit.normal, s)) = .ok (x, s') from h)
    cases h2
    exact qe1 hck _ _ hc h1
 | seq p q ihp ihq =>
  intro s s' x hc h
  rcases qjo (show thenC ((compC P gl n ck p).run ro s) (fun s => (compC P gl n ck q).run ro s) = .ok (x, s') from h) with ⟨s1, h1, h2⟩ | h1
  ·have k1 := ihp hc h1;exact k1.trans (ihq k1.2.2 h2)
  ·exact ihp hc h1
 | cond v p q ihp ihq =>
  intro s s' x hc h;have h' : condC ((opnd gl v).run s) ((compC P gl n ck p).run ro s) ((compC P gl n ck q).run ro s) = .ok (x, s') := h;unfold condC at h'
  split at h'
  ·exact ihp hc h'
  ·exact ihq hc h'
  ·cases h'
 | block id p ih =>
  intro s s' x hc h;have h' : blockC id ((compC P gl n ck p).run ro s) = .ok (x, s') := h
  cases h1 : (compC P gl n ck p).run ro s with
  | no why => rw [h1] at h'; cases h'
  | ok r =>
   obtain ⟨e, s1⟩ := r;rw [h1] at h'
   have : s1 = s' := by
    cases e with
    | exit id' =>
     simp only [blockC] at h'
     cases hb : Nat.beq id' id with
     | true => rw [hb] at h'; cases h'; rfl
     | false => rw [hb] at h'; cases h'; rfl
    | _ => simp only [blockC] at h'; cases h'; rfl
   subst this;exact ih hc h1
 | loop p ih =>
  intro s s' x hc h;have h' : loopN (fun s => (compC P gl n ck p).run ro s) 100000 s = .ok (x, s') := h
  have key : ∀ (m : Nat) {s1 : S}, s1.c ≤ 1048576 → Kp ro s s1 → loopN (fun s => (compC P gl n ck p).run ro s) m s1 = .ok (x, s') → Kp ro s s' := by
   intro m
   induction m with
   | zero => intro s1 _ _ h; cases h
   | succ m ihm =>
    intro s1 hc1 hk h
    rcases qjo (show thenC ((compC P gl n ck p).run ro s1) (loopN (fun s => (compC P gl n ck p).run ro s) m) = .ok (x, s') from h) with ⟨s2, h3, h4⟩ | h3
    ·have k1 := ih hc1 h3;exact ihm k1.2.2 (hk.trans k1) h4
    ·exact hk.trans (ih hc1 h3)
  exact key 100000 hc (Kp.refl hc) h'
 | scope p ih =>
  intro s s' x hc h;have h' : scopeC ((compC P gl n ck p).run ro s) = .ok (x, s') := h
  cases h1 : (compC P gl n ck p).run ro s with
  | no why => rw [h1] at h'; cases h'
  | ok r =>
   obtain ⟨e, s1⟩ := r;rw [h1] at h'
   have : s1 = s' := by
    cases e <;> first | (cases h'; done) | (cases h'; rfl)
   subst this;exact ih hc h1
 | _ => intro s s' x hc h; cases h
def OrcK (orc : Orc) : Prop := ∀ f as h c ro v h' c', orc f as h c ro = some (v, h', c') → c ≤ 1048576 → Keep ro c h h' ∧ c ≤ c' ∧ c' ≤ 1048576
theorem qus {h h' : H} {c c' : Nat} {l : Option (List V)} {nm : String} {v : V} (e : resO h c l nm = .ok (v, h', c')) : h' = h ∧ c' = c := by
 unfold resO at e
 split at e <;> first | (cases e; exact ⟨rfl, rfl⟩) | cases e
theorem qqg {orc : Orc} (ho : OrcK orc) : ∀ n, CKK (call P gl orc n)
 | 0 => fun f as h c ro v h' c' hh => by cases hh
 | n + 1 => by
  intro f as h c ro v h' c' hh hc;have hh2 : callStep P gl orc (call P gl orc n) f as h c ro = .ok (v, h', c') := hh;unfold callStep at hh2
  cases hor : orc f as h c ro with
  | some r =>
   rw [hor] at hh2
   cases hh2
   exact ho f as h c ro v h' c' hor hc
  | none =>
   rw [hor] at hh2;dsimp only at hh2;unfold compF at hh2
   cases hf : P.funcs[f]? with
   | none => rw [hf] at hh2; cases hh2
   | some fn =>
    rw [hf] at hh2;dsimp only at hh2
    split at hh2
    ·rename_i b hnm hb hnt
     dsimp only at hh2
     cases hle : Nat.ble as.length fn.ntmps with
     | false => rw [hle] at hh2; cases hh2
     | true =>
      rw [hle, cond_true] at hh2;unfold endC at hh2
      cases hcc : (compC P gl fn.ntmps (call P gl orc n) b).run ro ⟨args as 0 .nil, h, c⟩ with
      | no why => rw [hcc] at hh2; cases hh2
      | ok xs =>
       obtain ⟨x, s'⟩ := xs;rw [hcc] at hh2;have k := qur (qqg ho n) b (s := ⟨args as 0 .nil, h, c⟩) hc hcc
       have fin : resO s'.h s'.c (resL P s' fn.results.toList) fn.name = .ok (v, h', c') → Keep ro c h h' ∧ c ≤ c' ∧ c' ≤ 1048576 := by
        intro hres;obtain ⟨rfl, rfl⟩ := qus hres;exact k
       cases x with
       | normal => exact fin hh2
       | ret => exact fin hh2
       | _ => cases hh2
    ·cases hh2
end
end Go.Ex
namespace Go.Ex
section
variable {P : Program} {gl : Nat → Bool} {GW : World → Prop} {ck : CallK} {n ro : Nat} {w0 : World} {ops : Array Oper}
def PutV (n : Nat) (s s' : S) (dst : Option Nat) (v : V) : Prop := (∀ d, dst = some d → d < n) ∧ ∀ i, s'.t.get i = if dst = some i then some v else s.t.get i
theorem qcq (hn : n ≤ 1048576) {dst : Option Nat} {pos : String} {s s' : S} {v : V} {h : H} {c : Nat} (hp : compPut n dst pos s v h c = .ok s') : PutV n s s' dst v ∧ s'.h = h ∧ s'.c = c := by
 unfold compPut at hp
 cases dst with
 | none => cases hp; exact ⟨⟨by simp, fun i => by simp⟩, rfl, rfl⟩
 | some d =>
  dsimp only at hp
  cases hd : Nat.blt d n with
  | false => rw [hd] at hp; cases hp
  | true =>
   rw [hd, cond_true] at hp
   cases hp
   have hdn : d < n := Nat.le_of_ble_eq_true hd;refine ⟨⟨by rintro _ ⟨⟩; exact hdn, fun i => ?_⟩, rfl, rfl⟩;have : (Tr.setP v (path d) s.t).get i = if i = d then some v else s.t.get i := qee (t := s.t) (m := i) (by omega);show (Tr.setP v (path d) s.t).get i = _;rw [this]
   by_cases h : i = d
   ·subst h; simp
   ·rw [if_neg h, if_neg (by simpa using fun e => h e.symm)]
theorem qo9 {o : Oper} {d : Nat} (h : Operand.tmp d ∈ o.op.operands) : d ∈ o.looksAt ops :=
 List.mem_append_left _ (List.mem_filterMap.2 ⟨.tmp d, by simpa using h, rfl⟩)
theorem qmy {ρ : Rh} {s : S} {a : Act} {w : World} {o : Oper} (hglob : ∀ g, gl g = true → ρ g = some ⟨g, 0⟩) (hl : ∀ d ∈ o.looksAt ops, VR w ρ (tmpV (s.t.get d)) (a.tmps.getD d undef)) (x : Operand) (hx : x ∈ o.op.operands) :
  VR w ρ ((opnd gl x).run s) (a.eval x) := by
 cases x with
 | tmp i => exact hl i (qo9 hx)
 | const v => exact .lit v
 | func f => exact .lit _
 | global g =>
  show VR w ρ (bif gl g then V.ptr g 0 else .lit (.pointer (some ⟨g, 0, none⟩))) _
  cases hg : gl g with
  | false => exact .lit _
  | true => exact VR.ptr (w := w) (off := 0) (hglob g hg)
theorem qgq (hn : n ≤ 1048576) (hgw : GW w0) (hck : CKok P gl GW ck) {o : Oper} {ρ : Rh} {s s' : S} {a : Act} {w : World} (hr : Rel w0 ρ s.h w) (hd : Dom ρ s.c) (ht : s.c ≤ 1048576) (hg : ∀ g, gl g = true → ρ g = some ⟨g, 0⟩)
  (hl : ∀ d ∈ o.looksAt ops, VR w ρ (tmpV (s.t.get d)) (a.tmps.getD d undef)) (hrun : stepR n ck o ro s ((comp P gl o.op).run ro s) = .ok s') {K : Act → World → Prop} {Q : Exit → Act → World → Prop}
  (hK : ∀ ρ' v u w', Rel w0 ρ' s'.h w' → Ext ro s.c ρ w ρ' w' s'.c → VR w' ρ' v u → PutV n s s' o.dst v → K (a.put o.dst u) w') : o.wp P a w K Q := by
 have hgd := qgo (P := P) (ro := ro) (o := o) (e := a.eval) hr hd ht (fun x hx => qmy hg hl x hx);rw [qco] at hrun;unfold stepR at hrun
 cases hi : iop P s.h s.c ro o.op (fun x => (opnd gl x).run s) with
 | none => rw [hi] at hrun; cases hrun
 | some r =>
  rw [hi] at hrun hgd
  cases r with
  | val v h' c' =>
   dsimp only at hrun;have hg' : UponE w0 ro s.c ρ w v h' c' ((execOp a.eval o).run P w) := hgd;obtain ⟨p1, p2, p3⟩ := qcq hn hrun;unfold Oper.wp;generalize (execOp a.eval o).run P w = res at hg'
   cases res with
   | halt => exact hg'.elim
   | ok nx w' =>
    cases nx <;> simp only [UponE] at hg' <;> simp only [Oper.upon]
    case value u =>
     obtain ⟨ρ', h1, h2, h3⟩ := hg';exact hK ρ' v _ _ (by rw [p2]; exact h1) (by rw [p3]; exact h2) h3 p1
    case skip =>
     obtain ⟨ρ', h1, h2, h3⟩ := hg';exact hK ρ' v _ _ (by rw [p2]; exact h1) (by rw [p3]; exact h2) h3 p1
  | call f as =>
   dsimp only at hrun
   cases hc : ck f as s.h s.c ro with
   | no why => rw [hc] at hrun; cases hrun
   | ok vhc =>
    obtain ⟨v, h', c'⟩ := vhc;rw [hc] at hrun;dsimp only at hrun;obtain ⟨p1, p2, p3⟩ := qcq hn hrun;obtain ⟨args, g1, g2⟩ : ∃ args : List Value, (execOp a.eval o).run P w = (callFunc f args.toArray).run P w ∧ VL w ρ as args := hgd;obtain ⟨⟨fn, k1, k2, k3⟩, hcall⟩ := hck f as s.h s.c ro v h' c' hc;have hcl := hcall w0 ρ w args hgw hr hd ht hg g2;unfold Oper.wp;rw [g1, Sim.run_callFunc k1 k2 k3];simp only [Oper.upon];refine hcl.mono ?_;rintro e w' ⟨u, ρ', rfl, h1, h2, h3⟩;exact hK ρ' v _ _ (by rw [p2]; exact h1) (by rw [p3]; exact h2) h3 p1
theorem qe2 (hn : n ≤ 1048576) (hgw : GW w0) (hck : CKok P gl GW ck) {o : Oper} {ρ : Rh} {s s' : S} {a : Act} {w : World} (hr : Rel w0 ρ s.h w) (hd : Dom ρ s.c) (ht : s.c ≤ 1048576) (hg : ∀ g, gl g = true → ρ g = some ⟨g, 0⟩)
  (hl : ∀ d ∈ o.looksAt ops, VR w ρ (tmpV (s.t.get d)) (a.tmps.getD d undef)) (hrun : (compOp P gl n ck ops o).run ro s = .ok s') {K : Act → World → Prop} {Q : Exit → Act → World → Prop}
  (hK : ∀ ρ' v u w', Rel w0 ρ' s'.h w' → Ext ro s.c ρ w ρ' w' s'.c → VR w' ρ' v u → PutV n s s' o.dst v → K (a.put o.dst u) w') :
  if Region.wanted o (yielded ops a.tmps) then o.wp P a w K Q ∨ (o.asks P a w ∧ LetsOut Q) else K (a.put o.dst undef) w := by
 unfold compOp at hrun
 cases hgd : o.guard with
 | none =>
  rw [hgd] at hrun;dsimp only at hrun
  have : Region.wanted o (yielded ops a.tmps) = true := by simp [Region.wanted, hgd]
  rw [this];simp only [if_true];exact .inl (qgq hn hgw hck hr hd ht hg hl hrun hK)
 | some jw =>
  obtain ⟨j, want⟩ := jw;rw [hgd] at hrun;dsimp only at hrun
  have key : ∀ b, (compW ops o).run s = some b → Region.wanted o (yielded ops a.tmps) = b := by
   intro b hb;unfold compW at hb;rw [hgd] at hb;dsimp only at hb
   cases hdd : (ops[j]?).bind (·.dst) with
   | none => rw [hdd] at hb; cases hb
   | some d =>
    rw [hdd] at hb;dsimp only at hb;have htt := hl d (by simp [Oper.looksAt, hgd, hdd]);rw [Array.getD_eq_getD_getElem?] at htt;have hb' : isWant want (tmpV (s.t.get d)) = some b := hb;unfold Region.wanted;simp only [hgd, yielded, hdd, Option.bind_some];unfold isWant at hb'
    split at hb'
    ·rename_i b0 hv
     rw [hv] at htt;have := htt.lit_inv
     cases hq : a.tmps[d]? with
     | none => rw [hq] at this; simp [undef] at this
     | some x =>
      rw [hq] at this;simp only [Option.getD_some] at this;subst this
      simpa using hb'
    ·rename_i v0 hnb hv
     rw [hv] at htt;have := htt.lit_inv;simp only [Option.some.injEq] at hb';subst hb'
     cases hq : a.tmps[d]? with
     | none => rfl
     | some x =>
      rw [hq] at this;simp only [Option.getD_some] at this;subst this
      cases x <;> first | rfl | exact absurd rfl (hnb _)
    ·cases hb'
  unfold guarded at hrun
  cases hw : (compW ops o).run s with
  | none => rw [hw] at hrun; cases hrun
  | some b =>
   rw [hw] at hrun;rw [key b hw]
   cases b with
   | true =>
    simp only [if_true];exact .inl (qgq hn hgw hck hr hd ht hg hl hrun hK)
   | false =>
    simp only [Bool.false_eq_true, if_false];dsimp only at hrun;obtain ⟨p1, p2, p3⟩ := qcq hn hrun;exact hK ρ _ undef w (by rw [p2]; exact hr) (by rw [p3]; exact Ext.refl) (.lit undef) p1
theorem qpa (hn : n ≤ 1048576) {o : Oper} {s s' : S} (hrun : (compOp P gl n ck ops o).run ro s = .ok s') : (∀ d, o.dst = some d → d < n) ∧ ∀ i, o.dst ≠ some i → s'.t.get i = s.t.get i := by
 have keyR : ∀ r, stepR n ck o ro s r = .ok s' → (∀ d, o.dst = some d → d < n) ∧ ∀ i, o.dst ≠ some i → s'.t.get i = s.t.get i := by
  intro r hr
  have fin : ∀ {v : V} {h : H} {c : Nat}, compPut n o.dst o.pos s v h c = .ok s' → (∀ d, o.dst = some d → d < n) ∧ ∀ i, o.dst ≠ some i → s'.t.get i = s.t.get i := by
   intro v h c hp;obtain ⟨p1, _, _⟩ := qcq hn hp;exact ⟨p1.1, fun i hi => by rw [p1.2 i, if_neg hi]⟩
  unfold stepR at hr
  split at hr
  ·cases hr
  ·exact fin hr
  ·split at hr
   ·exact fin hr
   ·cases hr
 unfold compOp at hrun
 cases hgd : o.guard with
 | none => rw [hgd] at hrun; exact keyR _ hrun
 | some jw =>
  rw [hgd] at hrun;dsimp only at hrun;unfold guarded at hrun
  split at hrun
  ·cases hrun
  ·obtain ⟨p1, _, _⟩ := qcq hn hrun;exact ⟨p1.1, fun i hi => by rw [p1.2 i, if_neg hi]⟩
  ·exact keyR _ hrun
def FreeR (h : H) (c : Nat) (f : H → Nat → Option R) : Prop := ∀ r, f h c = some r → ∃ v, r = .val v h c ∧ ∀ h' c', f h' c' = some (.val v h' c')
theorem qa1 {h : H} {c : Nat} {v : V} : FreeR h c (fun h c => same h c v) := fun r e => ⟨v, by simpa [same] using e.symm, fun _ _ => rfl⟩
theorem jy {h : H} {c : Nat} : FreeR h c (fun _ _ => none) := fun r e => by cases e
theorem qh6 {h : H} {c : Nat} {v : Option V} : FreeR h c (fun h c => sameO h c v) := by cases v <;> first | exact jy | exact qa1
theorem qh7 {h : H} {c : Nat} {e : Sem Value} : FreeR h c (fun h c => plain h c e) := by
 intro r hr;unfold plain at hr ⊢
 cases e <;> first | (cases hr; done) | skip
 rename_i v
 simp only [xk, Option.some.injEq] at hr ⊢;exact ⟨_, hr.symm, fun _ _ => rfl⟩
theorem qcr {h : H} {c : Nat} {k : IntKind} {i : Int} : FreeR h c (fun h c => intV h c k i) := by
 intro r hr;simp only [intV, qae, Option.some.injEq] at hr ⊢;exact ⟨_, hr.symm, fun _ _ => rfl⟩
theorem qh8 {h : H} {c : Nat} {b : Bool} : FreeR h c (fun h c => boolV h c b) := by
 intro r hr
 cases b <;> (simp only [boolV, cond_true, cond_false, Option.some.injEq] at hr ⊢; exact ⟨_, hr.symm, fun _ _ => rfl⟩)
theorem qmz {h : H} {c : Nat} {b : Bool} {f g : H → Nat → Option R} (hf : FreeR h c f) (hg : FreeR h c g) : FreeR h c (fun h c => bif b then f h c else g h c) := by cases b <;> assumption
theorem qse {h : H} {c : Nat} {op : BinOp} {k : IntKind} {a b : Int} : FreeR h c (fun h c => intOp h c op k a b) := by
 unfold intOp
 cases op <;> first | exact jy | exact qcr | exact qh8 | exact qh7 | exact qmz jy qcr
theorem qpb {h : H} {c : Nat} {op : BinOp} {k k' : IntKind} {a b : Int} : FreeR h c (fun h c => intOp2 h c op k k' a b) := by
 unfold intOp2
 cases op <;> first | exact qh7 | exact qmz qse jy
theorem qut {h : H} {c : Nat} {op : BinOp} {t : TypeId} {x y : V} : FreeR h c (fun h c => eqA P h c op t x y) := by
 unfold eqA
 cases aggEq P t x y <;> cases op <;> first | exact jy | exact qh8
theorem quu {h : H} {c : Nat} {op : BinOp} {a b : ByteArray} : FreeR h c (fun h c => strB h c op a b) := by
 intro r hr;unfold strB at hr ⊢
 cases hs : strOp op a b with
 | none => rw [hs] at hr; cases hr
 | some v =>
  rw [hs] at hr;simp only [xk, Option.some.injEq] at hr ⊢;exact ⟨_, hr.symm, fun _ _ => rfl⟩
theorem qwg {h : H} {c : Nat} {op : BinOp} {t : TypeId} {a b : Bool} : FreeR h c (fun h c => eqB P h c op t a b) := by
 unfold eqB
 cases P.underlying t with
 | none => exact jy
 | some d => cases d <;> first | exact jy | (cases op <;> first | exact jy | exact qh8)
theorem qsf {h : H} {c : Nat} {op : BinOp} {t : TypeId} {x y : V} : FreeR h c (fun h c => binop P h c op t x y) := by
 unfold binop binop2
 cases x <;> cases y <;> first | exact qut | skip
 rename_i u v
 cases u <;> cases v <;> first | exact qut | exact qpb | exact quu | exact qwg
theorem qpc {h : H} {c : Nat} {e : TypeId} {x : V} {i : Int} {n0 : Nat} : FreeR h c (fun h c => elemAt P h c e x i n0) := by
 unfold elemAt;simp only [zf]
 split <;> first | exact jy | exact qmz qa1 jy
theorem qpd {o : Oper} (hf : free o = true) {h : H} {c ro : Nat} {ev : Ev} {r : R} (e : iop P h c ro o.op ev = some r) : ∃ v, r = .val v h c ∧ ∀ h' c' ro', iop P h' c' ro' o.op ev = some (.val v h' c') := by
 have key : ∀ {f : H → Nat → Option R}, FreeR h c f → (∀ h' c' ro', iop P h' c' ro' o.op ev = f h' c') → ∃ v, r = .val v h c ∧ ∀ h' c' ro', iop P h' c' ro' o.op ev = some (.val v h' c') := by
  intro f hfr he;obtain ⟨v, h1, h2⟩ := hfr r (by rw [← he h c ro]; exact e);exact ⟨v, h1, fun h' c' ro' => by rw [he]; exact h2 h' c'⟩
 unfold free at hf
 split at hf
 case h_1 x ho => rw [ho] at key ⊢; exact key (qa1 (v := ev x)) (fun _ _ _ => rfl)
 case h_2 x ho => rw [ho] at key ⊢; exact key (qa1 (v := ev x)) (fun _ _ _ => rfl)
 case h_3 b x y ho =>
  rw [ho] at key ⊢;refine key (f := fun h c => oPick h c (ev b) (ev x) (ev y)) ?_ (fun _ _ _ => rfl);unfold oPick
  split <;> first | exact qa1 | exact jy
 case h_4 op t x y p ho => rw [ho] at key ⊢; exact key (qsf (P := P) (op := op) (t := t) (x := ev x) (y := ev y)) (fun _ _ _ => rfl)
 case h_5 op t x ho =>
  rw [ho] at key ⊢;refine key (f := fun h c => oUn h c op (ev x)) ?_ (fun _ _ _ => rfl);unfold oUn
  split <;> first | exact qh7 | exact jy
 case h_6 s t x ho =>
  rw [ho] at key ⊢;refine key (f := fun h c => oConv P h c s t (ev x)) ?_ (fun _ _ _ => rfl);unfold oConv
  split <;> first | exact qcr | exact jy
 case h_7 s x i ho =>
  rw [ho] at key ⊢;refine key (f := fun h c => oFieldAddr P h c s (ev x) i) ?_ (fun _ _ _ => rfl);unfold oFieldAddr;simp only [zf]
  split <;> first | exact qa1 | exact jy
 case h_8 s x i ho =>
  rw [ho] at key ⊢;refine key (f := fun h c => oField P h c s (ev x) i) ?_ (fun _ _ _ => rfl);unfold oField;refine qmz ?_ jy
  split <;> first | exact qh6 | exact jy
 case h_9 t x i ho =>
  rw [ho] at key ⊢;refine key (f := fun h c => oIndexAddr P h c t (ev x) (ev i)) ?_ (fun _ _ _ => rfl);unfold oIndexAddr
  split <;> first | exact qmz qpc jy | exact jy
 case h_10 t x i ho =>
  rw [ho] at key ⊢;refine key (f := fun h c => oIndex P h c t (ev x) (ev i)) ?_ (fun _ _ _ => rfl);unfold oIndex idxS
  split
  ·exact qh6
  ·split <;> first | exact qcr | exact jy
  ·exact jy
 case h_11 f a b ho =>
  rw [ho] at key ⊢;refine key (f := fun h c => oMakeFunc h c f (mapL ev a) (mapL ev b)) ?_ (fun _ _ _ => rfl);unfold oMakeFunc
  split <;> first | exact qa1 | exact jy
 case h_12 x i ho =>
  rw [ho] at key ⊢;refine key (f := fun h c => oExtract h c (ev x) i) ?_ (fun _ _ _ => rfl);unfold oExtract
  split <;> first | exact qh6 | exact jy
 case h_13 x ho =>
  rw [ho] at key ⊢;refine key (f := fun h c => oNil h c (ev x)) ?_ (fun _ _ _ => rfl);unfold oNil
  split <;> first | exact qa1 | exact jy
 case h_14 as ts ho =>
  rw [ho] at key ⊢;refine key (f := fun h c => oLen P h c (mapL ev as) ts.toList) ?_ (fun _ _ _ => rfl);unfold oLen lenV
  split
  ·split <;> first | exact qa1 | exact qcr | exact jy
  ·exact jy
 case h_15 as ts ho =>
  rw [ho] at key ⊢;refine key (f := fun h c => oMM h c true (mapL ev as)) ?_ (fun _ _ _ => rfl);unfold oMM
  split <;> first | exact qcr | exact jy
 case h_16 as ts ho =>
  rw [ho] at key ⊢;refine key (f := fun h c => oMM h c false (mapL ev as)) ?_ (fun _ _ _ => rfl);unfold oMM
  split <;> first | exact qcr | exact jy
 case h_17 => cases hf
theorem qcs {o : Oper} (hf : free o = true) {s s' : S} (hrun : (compOp P gl n ck ops o).run ro s = .ok s') : s'.h = s.h ∧ s'.c = s.c ∧ ∀ h' ro', (compOp P gl n ck ops o).run ro' ⟨s.t, h', s.c⟩ = .ok ⟨s'.t, h', s.c⟩ := by
 have hev : ∀ h' : H, ∀ x : Operand, (opnd gl x).run ⟨s.t, h', s.c⟩ = (opnd gl x).run s := by intro h' x; cases x <;> rfl
 have put : ∀ {v : V}, compPut n o.dst o.pos s v s.h s.c = .ok s' → s'.h = s.h ∧ s'.c = s.c ∧ ∀ h' : H, compPut n o.dst o.pos ⟨s.t, h', s.c⟩ v h' s.c = .ok ⟨s'.t, h', s.c⟩ := by
  intro v hp;unfold compPut at hp ⊢
  cases hd : o.dst with
  | none => rw [hd] at hp; cases hp; exact ⟨rfl, rfl, fun _ => rfl⟩
  | some d =>
   rw [hd] at hp;dsimp only at hp ⊢
   cases hb : Nat.blt d n with
   | false => rw [hb] at hp; cases hp
   | true => rw [hb, cond_true] at hp; cases hp; exact ⟨rfl, rfl, fun _ => rfl⟩
 have stp : stepR n ck o ro s ((comp P gl o.op).run ro s) = .ok s' → s'.h = s.h ∧ s'.c = s.c ∧ ∀ h' ro', stepR n ck o ro' ⟨s.t, h', s.c⟩ ((comp P gl o.op).run ro' ⟨s.t, h', s.c⟩) = .ok ⟨s'.t, h', s.c⟩ := by
  intro hr;rw [qco] at hr;unfold stepR at hr
  cases hi : iop P s.h s.c ro o.op (fun x => (opnd gl x).run s) with
  | none => rw [hi] at hr; cases hr
  | some r =>
   rw [hi] at hr;obtain ⟨v, rfl, h2⟩ := qpd hf hi;obtain ⟨p1, p2, p3⟩ := put hr;refine ⟨p1, p2, fun h' ro' => ?_⟩;rw [qco];have : (fun x => (opnd gl x).run ⟨s.t, h', s.c⟩) = fun x => (opnd gl x).run s := funext (hev h');show stepR n ck o ro' ⟨s.t, h', s.c⟩ (iop P h' s.c ro' o.op (fun x => (opnd gl x).run ⟨s.t, h', s.c⟩)) = _;rw [this, h2 h' s.c ro'];exact p3 h'
 unfold compOp at hrun ⊢
 cases hg : o.guard with
 | none => rw [hg] at hrun; exact stp hrun
 | some jw =>
  rw [hg] at hrun;dsimp only at hrun ⊢
  have hw : ∀ h' : H, (compW ops o).run ⟨s.t, h', s.c⟩ = (compW ops o).run s := by
   intro h';unfold compW;rw [hg];dsimp only
   cases (ops[jw.1]?).bind (·.dst) <;> rfl
  unfold guarded at hrun ⊢
  cases hv : (compW ops o).run s with
  | none => rw [hv] at hrun; cases hrun
  | some b =>
   rw [hv] at hrun
   cases b with
   | false =>
    obtain ⟨p1, p2, p3⟩ := put hrun;exact ⟨p1, p2, fun h' ro' => by rw [hw h', hv]; exact p3 h'⟩
   | true =>
    obtain ⟨p1, p2, p3⟩ := stp hrun;exact ⟨p1, p2, fun h' ro' => by rw [hw h', hv]; exact p3 h' ro'⟩
end
end Go.Ex
namespace Go.Ex
section
variable {P : Program} {gl : Nat → Bool} {ck : CallK} {n ro : Nat} {w0 : World} {ops : Array Oper}
theorem qbo {o : Oper} {i : Nat} (h : follows o i = true) : ∃ e ∈ o.after, Region.binds .any e = true ∧ e.on = i := by
 unfold follows at h;obtain ⟨e, he, hb⟩ := List.any_eq_true.1 h;simp only [Bool.and_eq_true] at hb;exact ⟨e, by simpa using he, hb.1, Nat.eq_of_beq_eq_true hb.2⟩
theorem qa2 {o : Oper} {i : Nat} : ∀ (l : List Oper) (j : Nat), pairs.allAfter ops o i l j = true → ∀ (m : Nat) (o' : Oper), l[m]? = some o' → follows o' i = true ∨ o.apart ops o' = true
 | [], _, _, m, o', h => by simp at h
 | x :: l, j, h, m, o', hm => by
  simp only [pairs.allAfter, Bool.and_eq_true, Bool.or_eq_true] at h
  cases m with
  | zero => simp at hm; subst hm; exact h.1
  | succ m => exact qa2 l (j + 1) h.2 m o' (by simpa using hm)
theorem qct : ∀ (l : List Oper) (k : Nat), pairs ops l k = true → ∀ (i j : Nat) (o o' : Oper), l[i]? = some o → l[j]? = some o' → i < j → follows o' (k + i) = true ∨ o.apart ops o' = true
 | [], _, _, i, _, _, _, h, _, _ => by simp at h
 | x :: l, k, h, i, j, o, o', hi, hj, hij => by
  simp only [pairs, Bool.and_eq_true] at h
  cases j with
  | zero => omega
  | succ j =>
   cases i with
   | zero =>
    simp at hi; subst hi
    exact qa2 l (k + 1) h.1 j o' (by simpa using hj)
   | succ i =>
    have := qct l (k + 1) h.2 i j o o' (by simpa using hi) (by simpa using hj) (by omega);rw [show k + (i + 1) = k + 1 + i by omega]; exact this
theorem w7 (h : orderOk ops = true) {i j : Nat} {o o' : Oper} (hi : ops[i]? = some o) (hj : ops[j]? = some o') (hij : i < j) : follows o' i = true ∨ o.apart ops o' = true := by
 unfold orderOk at h;simp only [Bool.and_eq_true] at h;have := qct ops.toList 0 h.1 i j o o' (by simpa using hi) (by simpa using hj) hij
 rwa [Nat.zero_add] at this
theorem qd5 : ∀ (l : List Oper) (k : Nat), orderOk.upto l k = true → ∀ (i : Nat) (o : Oper), l[i]? = some o → ∀ e ∈ o.after, Region.binds .any e = true → e.on < k + i
 | [], _, _, i, _, h => by simp at h
 | x :: l, k, h, i, o, hi => by
  simp only [orderOk.upto, Bool.and_eq_true] at h
  cases i with
  | zero =>
   simp at hi; subst hi
   intro e he hb;have := List.all_eq_true.1 h.1 e (by simpa using he);have hb' : binds e = true := hb;rw [hb'] at this
   have h3 : Nat.blt e.on k = true := by simpa [-Nat.blt_eq] using this
   exact Nat.le_of_ble_eq_true h3
  | succ i =>
   have := qd5 l (k + 1) h.2 i o (by simpa using hi);rw [show k + (i + 1) = k + 1 + i by omega]; exact this
theorem qm0 (h : orderOk ops = true) {i : Nat} {o : Oper} (hi : ops[i]? = some o) : ∀ e ∈ o.after, Region.binds .any e = true → e.on < i := by
 unfold orderOk at h;simp only [Bool.and_eq_true] at h;have := qd5 ops.toList 0 h.2 i o (by simpa using hi)
 rwa [Nat.zero_add] at this
theorem qcu {j : Nat} {o : Oper} : ∀ (l : List Oper) (k : Nat), fixed.go j o l k = true → ∀ (i : Nat) (o' : Oper), l[i]? = some o' → free o' = true ∨ k + i = j ∨ (k + i < j ∧ follows o (k + i) = true) ∨ (j < k + i ∧ follows o' j = true)
 | [], _, _, i, _, h => by simp at h
 | x :: l, k, h, i, o', hi => by
  simp only [fixed.go, Bool.and_eq_true, Bool.or_eq_true] at h
  cases i with
  | zero =>
   simp at hi; subst hi
   rw [Nat.add_zero]
   rcases h.1 with ((h1 | h1) | h1) | h1
   ·exact .inl h1
   ·exact .inr (.inl (Nat.eq_of_beq_eq_true h1))
   ·exact .inr (.inr (.inl ⟨Nat.le_of_ble_eq_true h1.1, h1.2⟩))
   ·exact .inr (.inr (.inr ⟨Nat.le_of_ble_eq_true h1.1, h1.2⟩))
  | succ i =>
   have := qcu l (k + 1) h.2 i o' (by simpa using hi);rw [show k + (i + 1) = k + 1 + i by omega]; exact this
theorem qd6 {j : Nat} {o : Oper} (h : fixed ops j o = true) {i : Nat} {o' : Oper} (hi : ops[i]? = some o') : free o' = true ∨ i = j ∨ (i < j ∧ follows o i = true) ∨ (j < i ∧ follows o' j = true) := by
 have := qcu ops.toList 0 h i o' (by simpa using hi)
 rwa [Nat.zero_add] at this
theorem qm1 : ∀ (l : List Oper) (j : Nat) {s s' : S}, (compOpsD P gl n ck ops l j).run ro s = .ok s' → ∃ st : Nat → S, st j = s ∧ st (j + l.length) = s' ∧
  ∀ i o, l[i]? = some o → (compOp P gl n ck ops o).run (if fixed ops (j + i) o = true then ro else (st (j + i)).c) (st (j + i)) = .ok (st (j + i + 1))
 | [], j, s, s', h => by
  simp only [compOpsD, Re.ok.injEq] at h;exact ⟨fun _ => s, rfl, by simpa using h, fun i o hi => by simp at hi⟩
 | o :: l, j, s, s', h => by
  have : ∃ s1, (compOp P gl n ck ops o).run (if fixed ops j o = true then ro else s.c) s = .ok s1 ∧ (compOpsD P gl n ck ops l (j + 1)).run ro s1 = .ok s' := by
   simp only [compOpsD] at h
   cases hf : fixed ops j o with
   | true => rw [hf] at h; obtain ⟨s1, h1, h2⟩ := qad h; exact ⟨s1, by simpa using h1, h2⟩
   | false => rw [hf] at h; obtain ⟨s1, h1, h2⟩ := qad h; exact ⟨s1, by simpa using h1, h2⟩
  obtain ⟨s1, h1, h2⟩ := this;obtain ⟨st, g1, g2, g3⟩ := qm1 l (j + 1) h2;refine ⟨fun i => if i = j then s else st i, if_pos rfl, ?_, ?_⟩
  ·show (if j + (o :: l).length = j then s else st (j + (o :: l).length)) = s';rw [if_neg (by simp), ← g2]
   congr 1
   simp only [List.length_cons]; omega
  ·intro i o' hi
   cases i with
   | zero =>
    simp at hi; subst hi
    simp only [Nat.add_zero];rw [if_pos trivial, show (if j + 1 = j then s else st (j + 1)) = s1 by rw [if_neg (by omega), g1]];exact h1
   | succ i =>
    have := g3 i o' (by simpa using hi)
    simp only
    rw [show j + 1 + i = j + (i + 1) by omega] at this;rw [show (if j + (i + 1) = j then s else st (j + (i + 1))) = st (j + (i + 1)) from if_neg (by omega), show (if j + (i + 1) + 1 = j then s else st (j + (i + 1) + 1)) = st (j + (i + 1) + 1) from if_neg (by omega)];exact this
structure Tx (P : Program) (gl : Nat → Bool) (ck : CallK) (n ro : Nat) (ops : Array Oper) (st : Nat → S) : Prop where
 step : ∀ j o, ops[j]? = some o → (compOp P gl n ck ops o).run (if fixed ops j o = true then ro else (st j).c) (st j) = .ok (st (j + 1))
 c0 : (st 0).c ≤ 1048576
 ck : CKK ck
 nn : n ≤ 1048576
def FixM (ops : Array Oper) (j : Nat) (o : Oper) : Prop := fixed ops j o = true ∧ free o = false
section
variable {st : Nat → S}
theorem qkv {j : Nat} (h : j < ops.size) : ∃ o, ops[j]? = some o := ⟨ops[j], by simp [h]⟩
theorem Tx.top (tx : Tx P gl ck n ro ops st) : ∀ j, j ≤ ops.size → (st j).c ≤ 1048576
 | 0, _ => tx.c0
 | j + 1, h => by
  obtain ⟨o, ho⟩ := qkv (ops := ops) (j := j) (by omega);exact (qd4 tx.ck (tx.top j (by omega)) (tx.step j o ho)).2.2
theorem Tx.le1 (tx : Tx P gl ck n ro ops st) {j : Nat} (h : j < ops.size) : (st j).c ≤ (st (j + 1)).c := by
 obtain ⟨o, ho⟩ := qkv (ops := ops) h;exact (qd4 tx.ck (tx.top j (by omega)) (tx.step j o ho)).2.1
theorem Tx.mono (tx : Tx P gl ck n ro ops st) {i : Nat} : ∀ k, i + k ≤ ops.size → (st i).c ≤ (st (i + k)).c
 | 0, _ => Nat.le_refl _
 | k + 1, h => Nat.le_trans (tx.mono k (by omega)) (tx.le1 (j := i + k) (by omega))
theorem Tx.le (tx : Tx P gl ck n ro ops st) {i j : Nat} (h : i ≤ j) (hj : j ≤ ops.size) : (st i).c ≤ (st j).c := by
 have := tx.mono (i := i) (j - i) (by omega)
 rwa [show i + (j - i) = j by omega] at this
theorem Tx.keep1 (tx : Tx P gl ck n ro ops st) {j : Nat} {o : Oper} (ho : ops[j]? = some o) (hf : ¬ FixM ops j o) (id : Nat) (hid : id < (st j).c) : (st (j + 1)).h.get id = (st j).h.get id := by
 have hj : j < ops.size := (Array.getElem?_eq_some_iff.1 ho).1;have hs := tx.step j o ho
 cases hfr : free o with
 | true => rw [(qcs hfr hs).1]
 | false =>
  have : fixed ops j o = false := by
   cases hx : fixed ops j o with
   | true => exact absurd ⟨hx, hfr⟩ hf
   | false => rfl
  rw [this] at hs;exact (qd4 tx.ck (tx.top j (by omega)) hs).1 id (by simpa using hid) hid
theorem Tx.keepK (tx : Tx P gl ck n ro ops st) {i : Nat} : ∀ k, i + k ≤ ops.size → (∀ j o, ops[j]? = some o → i ≤ j → j < i + k → ¬ FixM ops j o) → ∀ id, id < (st i).c → (st (i + k)).h.get id = (st i).h.get id
 | 0, _, _, _, _ => rfl
 | k + 1, h, hno, id, hid => by
  obtain ⟨o, ho⟩ := qkv (ops := ops) (j := i + k) (by omega);have := tx.keep1 ho (hno _ o ho (by omega) (by omega)) id (Nat.lt_of_lt_of_le hid (tx.mono k (by omega)));exact this.trans (tx.keepK k (by omega) (fun j o hj h1 h2 => hno j o hj h1 (by omega)) id hid)
theorem Tx.keep (tx : Tx P gl ck n ro ops st) {i j : Nat} (h : i ≤ j) (hj : j ≤ ops.size) (hno : ∀ k o, ops[k]? = some o → i ≤ k → k < j → ¬ FixM ops k o) (id : Nat) (hid : id < (st i).c) : (st j).h.get id = (st i).h.get id := by
 have := tx.keepK (i := i) (j - i) (by omega) (fun k o hk h1 h2 => hno k o hk h1 (by omega)) id hid
 rwa [show i + (j - i) = j by omega] at this
theorem Tx.slotK (tx : Tx P gl ck n ro ops st) {i d : Nat} : ∀ k, i + k ≤ ops.size → (∀ j o, ops[j]? = some o → i ≤ j → j < i + k → o.dst ≠ some d) → (st (i + k)).t.get d = (st i).t.get d
 | 0, _, _ => rfl
 | k + 1, h, hno => by
  obtain ⟨o, ho⟩ := qkv (ops := ops) (j := i + k) (by omega);have := (qpa tx.nn (tx.step _ o ho)).2 d (hno _ o ho (by omega) (by omega));exact this.trans (tx.slotK k (by omega) (fun j o hj h1 h2 => hno j o hj h1 (by omega)))
theorem Tx.slot (tx : Tx P gl ck n ro ops st) {i j d : Nat} (h : i ≤ j) (hj : j ≤ ops.size) (hno : ∀ k o, ops[k]? = some o → i ≤ k → k < j → o.dst ≠ some d) : (st j).t.get d = (st i).t.get d := by
 have := tx.slotK (i := i) (d := d) (j - i) (by omega) (fun k o hk h1 h2 => hno k o hk h1 (by omega))
 rwa [show i + (j - i) = j by omega] at this
end
end
end Go.Ex
namespace Go.Ex
section
variable {P : Program} {gl : Nat → Bool} {GW : World → Prop} {ck : CallK} {n ro : Nat} {w0 : World} {ops : Array Oper}
def cutR (ρ : Rh) (m : Nat) : Rh := fun id => if id < m then ρ id else none
theorem zy {ρ : Rh} {m id : Nat} {l : Loc} : cutR ρ m id = some l ↔ id < m ∧ ρ id = some l := by
  unfold cutR
  by_cases h : id < m <;> simp [h]
theorem qa3 {ρ : Rh} {m : Nat} (h : Dom ρ m) : cutR ρ m = ρ := by
  funext id
  unfold cutR
  by_cases hi : id < m
  · rw [if_pos hi]
  · rw [if_neg hi]
    cases hr : ρ id with
    | none => rfl
    | some l => exact absurd (h id l hr) hi
theorem xq {w w' : World} (hf : ∀ b, b < w.heap.size → w'.heap[b]? = w.heap[b]?) : ∀ (b : Nat) (vs : Array Value) (t : TypeId) (fr : Nat × Nat), w.heap[b]? = some (Obj.cells vs t fr) → ∃ (vs' : Array Value) (fr' : Nat × Nat), w'.heap[b]? = some (Obj.cells vs' t fr') ∧ vs'.size = vs.size :=
  fun b vs t fr h => ⟨vs, fr, by rw [hf b (Array.getElem?_eq_some_iff.1 h).1]; exact h, rfl⟩
theorem Rel.heap {ρ : Rh} {h h' : H} {w : World} (hr : Rel w0 ρ h w) (he : ∀ id l, ρ id = some l → h'.get id = h.get id) : Rel w0 ρ h' w where
  below := hr.below
  blk := fun id l hl => by rw [he id l hl]; exact hr.blk id l hl
  inj := fun id id' l l' b h1 h2 h3 h4 h5 => by rw [he id l h1] at h4; rw [he id' l' h2]; exact hr.inj id id' l l' b h1 h2 h3 h4 h5
theorem Rel.still {ρ : Rh} {h : H} {w w' : World} (hr : Rel w0 ρ h w) (hb : RowKit.Below w0.heap.size w0 w') (hs : w.heap.size ≤ w'.heap.size) (hf : ∀ b, b < w.heap.size → w'.heap[b]? = w.heap[b]?) : Rel w0 ρ h w' where
  below := hb
  blk := fun id l hl => by
    obtain ⟨b, h1, h2, h3, h4⟩ := hr.blk id l hl
    exact ⟨b, h1, Nat.lt_of_lt_of_le h2 hs, BR.mono (fun _ _ h => h) (xq hf) h3 (hf _ h2), h4⟩
  inj := hr.inj
theorem Ext.into {c c1 c2 C : Nat} {ρ ρ1 ρ2 : Rh} {w w1 w2 : World} (a : Ext ro c ρ w ρ1 w1 C) (b : Ext ro c1 ρ1 w1 ρ2 w2 c2) (h1 : c ≤ c1) (h2 : c2 ≤ C) : Ext ro c ρ w ρ2 w2 C where
  sub := fun id l h => b.sub _ _ (a.sub _ _ h)
  size := Nat.le_trans a.size b.size
  shape := fun b' vs t fr h => by
    obtain ⟨vs1, fr1, h1, h2⟩ := a.shape b' vs t fr h
    obtain ⟨vs2, fr2, h3, h4⟩ := b.shape b' vs1 t fr1 h1
    exact ⟨vs2, fr2, h3, h4.trans h2⟩
  os := b.os.trans a.os
  tape := b.tape.trans a.tape
  output := b.output.trans a.output
  frame := fun x hx hno => by
    have h1 := a.frame x hx hno
    rw [← h1]
    refine b.frame x (Nat.lt_of_lt_of_le hx a.size) fun id l hid hl => ?_
    rcases a.fresh id l hl with h2 | ⟨_, _, h3 | ⟨id0, l0, h4, h5, h6⟩⟩
    · exact hno id l hid h2
    · omega
    · rw [← h6]; exact hno id0 l0 h4 h5
  fresh := fun id l hl => by
    rcases b.fresh id l hl with g1 | ⟨g1, g2, g3⟩
    · exact a.fresh id l g1
    · refine .inr ⟨Nat.le_trans h1 g1, Nat.lt_of_lt_of_le g2 h2, ?_⟩
      rcases g3 with g3 | ⟨id0, l0, g4, g5, g6⟩
      · exact .inl (Nat.le_trans a.size g3)
      · rcases a.fresh id0 l0 g5 with g7 | ⟨_, _, g8 | ⟨id1, l1, g9, g10, g11⟩⟩
        · exact .inr ⟨id0, l0, g4, g7, g6⟩
        · exact .inl (by rw [← g6]; exact g8)
        · exact .inr ⟨id1, l1, g9, g10, g11.trans g6⟩
  le := a.le
  cap := a.cap
abbrev Cond (ops : Array Oper) (listed : Array Bool) (m : Nat) : Prop := ∀ k o, ops[k]? = some o → FixM ops k o → (k < m ↔ listed.getD k false = true)
structure Inv (gl : Nat → Bool) (n ro : Nat) (w0 : World) (ops : Array Oper) (st : Nat → S) (ρ0 : Rh) (w00 : World) (listed : Array Bool) (ρ : Rh) (a : Act) (w : World) : Prop where
  defers : a.defers = []
  size : a.tmps.size = n
  lsize : listed.size = ops.size
  closed : ∀ j o, ops[j]? = some o → listed.getD j false = true → ∀ e ∈ o.after, Region.binds .any e = true → listed.getD e.on false = true
  glob : ∀ g, gl g = true → ρ g = some ⟨g, 0⟩
  globlt : ∀ g, gl g = true → g < (st 0).c
  dom : ∀ id l, ρ id = some l → id < (st 0).c ∨ ∃ j, j < ops.size ∧ listed.getD j false = true ∧ (st j).c ≤ id ∧ id < (st (j + 1)).c
  lt : ∀ id l, ρ id = some l → l.b < w.heap.size
  below : RowKit.Below w0.heap.size w0 w
  rel : ∀ m, m ≤ ops.size → Cond ops listed m → Rel w0 (cutR ρ (st m).c) (st m).h w
  tmps : ∀ d, ∃ m, m ≤ ops.size ∧ (m = 0 ∨ ∃ i o, m = i + 1 ∧ ops[i]? = some o ∧ o.dst = some d ∧ listed.getD i false = true) ∧
     (∀ k o, ops[k]? = some o → o.dst = some d → (k < m ↔ listed.getD k false = true)) ∧ VR w (cutR ρ (st m).c) (tmpV ((st m).t.get d)) (a.tmps.getD d undef)
  ext : Ext ro (st 0).c ρ0 w00 ρ w (st ops.size).c
theorem qm2 {listed : Array Bool} {j k : Nat} (hj : j < listed.size) : (listed.setIfInBounds j true).getD k false = true ↔ k = j ∨ listed.getD k false = true := by
  by_cases h : k = j
  · subst h; simp [hj]
  · rw [getD_set_ne false (Ne.symm h)]; simp [h]
section
variable {st : Nat → S} {ρ0 ρ : Rh} {w00 w : World} {listed : Array Bool} {a : Act} {j : Nat} {o : Oper}
theorem Inv.looks (tx : Tx P gl ck n ro ops st) (iv : Inv gl n ro w0 ops st ρ0 w00 listed ρ a w) (ok : orderOk ops = true) (ho : ops[j]? = some o) (hD : ¬ listed.getD j false = true)
    (hA : ∀ i, follows o i = true → listed.getD i false = true) (hB : ∀ i oi, ops[i]? = some oi → follows oi j = true → ¬ listed.getD i false = true) :
    ∀ d ∈ o.looksAt ops, VR w (cutR ρ (st j).c) (tmpV ((st j).t.get d)) (a.tmps.getD d undef) := by
  intro d hd
  have hj : j < ops.size := (Array.getElem?_eq_some_iff.1 ho).1
  obtain ⟨m, h1, h2, h3, h4⟩ := iv.tmps d
  have hmj : m ≤ j := by
    rcases h2 with rfl | ⟨i, oi, rfl, g1, g2, g3⟩
    · exact Nat.zero_le _
    · rcases Nat.lt_trichotomy i j with h | h | h
      · exact h
      · subst h; exact absurd g3 hD
      · rcases w7 ok ho g1 h with h5 | h5
        · exact absurd g3 (hB i oi g1 h5)
        · exact absurd hd ((Oper.apart_spec h5).2.2 d g2)
  have hs : (st j).t.get d = (st m).t.get d := tx.slot hmj (by omega) fun k ok' hk k1 k2 hdk => by
    have hno : ¬ listed.getD k false = true := fun e => by have := (h3 k ok' hk hdk).2 e; omega
    rcases w7 ok hk ho k2 with h5 | h5
    · exact hno (hA k h5)
    · exact (Oper.apart_spec h5).1 d hdk hd
  rw [hs]
  refine h4.mono (fun id l h => ?_) (fun b vs t fr h => ⟨vs, fr, h, rfl⟩)
  obtain ⟨g1, g2⟩ := zy.1 h
  exact zy.2 ⟨Nat.lt_of_lt_of_le g1 (tx.le hmj (by omega)), g2⟩
theorem Inv.next (tx : Tx P gl ck n ro ops st) (iv : Inv gl n ro w0 ops st ρ0 w00 listed ρ a w) (ok : orderOk ops = true) (ho : ops[j]? = some o) (hD : ¬ listed.getD j false = true)
    (hE : ∀ e ∈ o.after, Region.binds .any e = true → listed.getD e.on false = true)
    (hA : ∀ i, follows o i = true → listed.getD i false = true) (hB : ∀ i oi, ops[i]? = some oi → follows oi j = true → ¬ listed.getD i false = true)
    {ρ' : Rh} {v : V} {u : Value} {w' : World} (e : Ext ro (st j).c ρ w ρ' w' (st (j + 1)).c)
    (hrel : ∀ m, m ≤ ops.size → Cond ops (listed.setIfInBounds j true) m → Rel w0 (cutR ρ' (st m).c) (st m).h w')
    (hv : VR w' (cutR ρ' (st (j + 1)).c) v u) (hp : PutV n (st j) (st (j + 1)) o.dst v) (hlt : ∀ id l, ρ' id = some l → l.b < w'.heap.size) (hb : RowKit.Below w0.heap.size w0 w') :
    Inv gl n ro w0 ops st ρ0 w00 (listed.setIfInBounds j true) ρ' (a.put o.dst u) w' := by
  have hj : j < ops.size := (Array.getElem?_eq_some_iff.1 ho).1
  have hjl : j < listed.size := by rw [iv.lsize]; exact hj
  have hset : ∀ k, (listed.setIfInBounds j true).getD k false = true ↔ k = j ∨ listed.getD k false = true := fun k => qm2 hjl
  refine ⟨by rw [Sim.defers_put]; exact iv.defers, by rw [Sim.size_put]; exact iv.size, by simpa using iv.lsize, ?_, fun g hg => e.sub _ _ (iv.glob g hg), iv.globlt, ?_, hlt, hb, hrel, ?_, ?_⟩
  · intro i oi hi hl x hx hbx
    rw [hset] at hl ⊢
    rcases hl with rfl | hl
    · have : oi = o := by rw [ho] at hi; exact (Option.some.inj hi).symm
      subst this
      exact .inr (hE x hx hbx)
    · exact .inr (iv.closed i oi hi hl x hx hbx)
  · intro id l hl
    rcases e.fresh id l hl with h | ⟨h1, h2, _⟩
    · rcases iv.dom id l h with h | ⟨i, h1, h2, h3⟩
      · exact .inl h
      · exact .inr ⟨i, h1, (hset i).2 (.inr h2), h3⟩
    · exact .inr ⟨j, hj, (hset j).2 (.inl rfl), h1, h2⟩
  · intro d
    rw [Sim.getD_put _ _ _ (fun d' h => by rw [iv.size]; exact hp.1 d' h)]
    by_cases hd : o.dst = some d
    · refine ⟨j + 1, hj, .inr ⟨j, o, rfl, ho, hd, (hset j).2 (.inl rfl)⟩, ?_, ?_⟩
      · intro k ok' hk hdk
        rw [hset]
        rcases Nat.lt_trichotomy k j with h | h | h
        · refine ⟨fun _ => .inr ?_, fun _ => by omega⟩
          rcases w7 ok hk ho h with h5 | h5
          · exact hA k h5
          · exact absurd hd ((Oper.apart_spec h5).2.1 d hdk)
        · exact ⟨fun _ => .inl h, fun _ => by omega⟩
        · refine ⟨fun h' => by omega, fun h' => ?_⟩
          rcases h' with rfl | h'
          · omega
          · exfalso
            rcases w7 ok ho hk h with h5 | h5
            · exact hB k ok' hk h5 h'
            · exact (Oper.apart_spec h5).2.1 d hd hdk
      · rw [if_pos hd, hp.2 d, if_pos hd]
        exact hv
    · rw [if_neg hd]
      obtain ⟨m, h1, h2, h3, h4⟩ := iv.tmps d
      refine ⟨m, h1, ?_, ?_, ?_⟩
      · rcases h2 with h2 | ⟨i, oi, g1, g2, g3, g4⟩
        · exact .inl h2
        · exact .inr ⟨i, oi, g1, g2, g3, (hset i).2 (.inr g4)⟩
      · intro k ok' hk hdk
        rw [hset]
        have hkj : k ≠ j := by
          rintro rfl
          rw [ho] at hk
          cases hk
          exact hd hdk
        rw [h3 k ok' hk hdk]
        exact ⟨fun h => .inr h, fun h => h.resolve_left hkj⟩
      · refine h4.mono (fun id l h => ?_) e.shape
        obtain ⟨g1, g2⟩ := zy.1 h
        exact zy.2 ⟨g1, e.sub _ _ g2⟩
  · exact iv.ext.into e (tx.le (Nat.zero_le _) (by omega)) (tx.le hj (Nat.le_refl _))
theorem qjp : ∀ c, c ≤ 1048576 → ∃ h : H, ∀ id, id < c → h.get id = some .dead
  | 0, _ => ⟨.nil, fun _ h => by omega⟩
  | c + 1, hc => by
    obtain ⟨h, hh⟩ := qjp c (by omega)
    refine ⟨hset h c .dead, fun id hid => ?_⟩
    rw [jl (by omega)]
    by_cases h1 : id = c
    · rw [if_pos h1]
    · rw [if_neg h1]; exact hh id (by omega)
theorem Inv.step (hgw : GW w0) (hck : CKok P gl GW ck) (tx : Tx P gl ck n ro ops st) (iv : Inv gl n ro w0 ops st ρ0 w00 listed ρ a w) (ok : orderOk ops = true) (ho : ops[j]? = some o) (hD : ¬ listed.getD j false = true)
    (hE : ∀ e ∈ o.after, Region.binds .any e = true → listed.getD e.on false = true) {K : Act → World → Prop} {Q : Exit → Act → World → Prop}
    (hK : ∀ ρ' a' w', Inv gl n ro w0 ops st ρ0 w00 (listed.setIfInBounds j true) ρ' a' w' → K a' w') :
    if Region.wanted o (yielded ops a.tmps) then o.wp P a w K Q ∨ (o.asks P a w ∧ LetsOut Q) else K (a.put o.dst undef) w := by
  have hj : j < ops.size := (Array.getElem?_eq_some_iff.1 ho).1
  have hjl : j < listed.size := by rw [iv.lsize]; exact hj
  have hset : ∀ k, (listed.setIfInBounds j true).getD k false = true ↔ k = j ∨ listed.getD k false = true := fun k => qm2 hjl
  have hA : ∀ i, follows o i = true → listed.getD i false = true := fun i hi => by
    obtain ⟨x, h1, h2, rfl⟩ := qbo hi
    exact hE x h1 h2
  have hB : ∀ i oi, ops[i]? = some oi → follows oi j = true → ¬ listed.getD i false = true := fun i oi hi hf hl => by
    obtain ⟨x, h1, h2, h3⟩ := qbo hf
    have := iv.closed i oi hi hl x h1 h2
    rw [h3] at this
    exact hD this
  have hlook := iv.looks tx ok ho hD hA hB
  have hstep := tx.step j o ho
  have hcj := tx.top j (by omega)
  have hglob : ∀ g, gl g = true → cutR ρ (st j).c g = some ⟨g, 0⟩ := fun g hg => zy.2 ⟨Nat.lt_of_lt_of_le (iv.globlt g hg) (tx.le (Nat.zero_le _) (by omega)), iv.glob g hg⟩
  have hdomc : Dom (cutR ρ (st j).c) (st j).c := fun id l h => (zy.1 h).1
  -- where this one is among those that may not change places
  have hcond : free o = false → Cond ops listed j := by
    intro hfr k ok' hk hfk
    rcases qd6 hfk.1 ho with h | h | ⟨h1, h2⟩ | ⟨h1, h2⟩
    · rw [hfr] at h; cases h
    · subst h
      exact ⟨fun h => by omega, fun h => absurd h hD⟩
    · exact ⟨fun h => by omega, fun h => absurd h (hB k ok' hk h2)⟩
    · exact ⟨fun _ => hA k h2, fun _ => h1⟩
  cases hfr : free o with
  | true =>
    obtain ⟨e1, e2, e3⟩ := qcs hfr hstep
    obtain ⟨hd, hhd⟩ := qjp (st j).c hcj
    have hr : Rel w0 (cutR ρ (st j).c) hd w := by
      refine ⟨iv.below, fun id l hl => ⟨.dead, hhd id (zy.1 hl).1, iv.lt id l (zy.1 hl).2, trivial, fun h => by cases h⟩, fun id id' l l' b h1 h2 h3 h4 h5 => ?_⟩
      rw [hhd id (zy.1 h1).1] at h4
      cases h4
      cases h5
    refine qe2 (s := ⟨(st j).t, hd, (st j).c⟩) (ρ := cutR ρ (st j).c) tx.nn hgw hck hr hdomc hcj hglob hlook (e3 hd (st j).c) ?_
    intro ρ' v u w' h1 h2 h3 h4
    have hρ : ρ' = cutR ρ (st j).c := by
      funext id
      cases hx : ρ' id with
      | some l =>
        rcases h2.fresh id l hx with g | ⟨g1, g2, _⟩
        · exact g.symm
        · exact absurd (show id < (st j).c from g2) (by have : (st j).c ≤ id := g1; omega)
      | none =>
        cases hy : cutR ρ (st j).c id with
        | none => rfl
        | some l => rw [h2.sub id l hy] at hx; cases hx
    subst hρ
    have hfm : ∀ b, b < w.heap.size → w'.heap[b]? = w.heap[b]? := fun b hb => h2.frame b hb fun id l g1 g2 => absurd (hdomc id l g2) (by have : (st j).c ≤ id := g1; omega)
    refine hK ρ _ w' (iv.next tx ok ho hD hE hA hB (v := v) ?_ ?_ (by rw [e2]; exact h3) h4 (fun id l hl => Nat.lt_of_lt_of_le (iv.lt id l hl) h2.size) h1.below)
    · exact ⟨fun _ _ h => h, h2.size, h2.shape, h2.os, h2.tape, h2.output, fun b hb _ => hfm b hb, fun _ _ h => .inl h, by rw [e2]; exact Nat.le_refl _, fun h => by rw [e2]; exact h⟩
    · intro m hm hc
      refine (iv.rel m hm fun k ok' hk hfk => ?_).still h1.below h2.size hfm
      rw [hc k ok' hk hfk, hset]
      refine ⟨fun h => h.resolve_left ?_, fun h => .inr h⟩
      rintro rfl
      rw [ho] at hk
      cases hk
      rw [hfk.2] at hfr; cases hfr
  | false =>
    have hc := hcond hfr
    have hr := iv.rel j (by omega) hc
    cases hfx : fixed ops j o with
    | true =>
      rw [hfx, if_pos rfl] at hstep
      have hdom : Dom ρ (st j).c := by
        intro id l hl
        rcases iv.dom id l hl with h | ⟨i, h1, h2, h3, h4⟩
        · exact Nat.lt_of_lt_of_le h (tx.le (Nat.zero_le _) (by omega))
        · obtain ⟨oi, hoi⟩ := qkv h1
          rcases qd6 hfx hoi with h | h | ⟨h, _⟩ | ⟨h, hf⟩
          · rw [(qcs h (tx.step i oi hoi)).2.1] at h4; omega
          · subst h; exact absurd h2 hD
          · exact Nat.lt_of_lt_of_le h4 (tx.le h (by omega))
          · exact absurd h2 (hB i oi hoi hf)
      rw [qa3 hdom] at hr hlook hglob
      refine qe2 tx.nn hgw hck hr hdom hcj hglob hlook hstep ?_
      intro ρ' v u w' h1 h2 h3 h4
      have hd' : Dom ρ' (st (j + 1)).c := h2.dom hdom
      refine hK ρ' _ w' (iv.next tx ok ho hD hE hA hB (v := v) h2 ?_ (by rw [qa3 hd']; exact h3) h4 (fun id l hl => by obtain ⟨b, _, g, _⟩ := h1.blk id l hl; exact g) h1.below)
      intro m hm hcm
      have hjm : j < m := (hcm j o ho ⟨hfx, hfr⟩).2 ((hset j).2 (.inl rfl))
      have hle := tx.le hjm hm
      rw [qa3 (fun id l hl => Nat.lt_of_lt_of_le (hd' id l hl) hle)]
      refine h1.heap fun id l hl => tx.keep hjm hm (fun k ok' hk k1 k2 hfk => ?_) id (hd' id l hl)
      have h5 := (hcm k ok' hk hfk).1 k2
      rw [hset] at h5
      rcases h5 with h5 | h5
      · omega
      · have := (hc k ok' hk hfk).2 h5; omega
    | false =>
      rw [hfx, if_neg (by simp)] at hstep
      have hnf : ∀ k ok', ops[k]? = some ok' → FixM ops k ok' → k ≠ j := by
        rintro k ok' hk hfk rfl
        rw [ho] at hk; cases hk
        exact absurd hfk.1 (by rw [hfx]; simp)
      refine qe2 (ro := (st j).c) tx.nn hgw hck hr hdomc hcj hglob hlook hstep ?_
      intro ρ1 v u w' h1 h2 h3 h4
      have hgap : ∀ id l, ρ id = some l → ¬ ((st j).c ≤ id ∧ id < (st (j + 1)).c) := by
        rintro id l hl ⟨g1, g2⟩
        rcases iv.dom id l hl with h | ⟨i, k1, k2, k3, k4⟩
        · have := tx.le (Nat.zero_le j) (by omega); omega
        · rcases Nat.lt_trichotomy i j with h | h | h
          · have := tx.le (i := i + 1) (j := j) h (by omega); omega
          · subst h; exact hD k2
          · have := tx.le (i := j + 1) (j := i) h (by omega); omega
      let ρ' : Rh := fun id => if (st j).c ≤ id ∧ id < (st (j + 1)).c then ρ1 id else ρ id
      have hin : ∀ {id : Nat}, ((st j).c ≤ id ∧ id < (st (j + 1)).c) → ρ' id = ρ1 id := fun h => if_pos h
      have hout : ∀ {id : Nat}, ¬ ((st j).c ≤ id ∧ id < (st (j + 1)).c) → ρ' id = ρ id := fun h => if_neg h
      have hsub : ∀ id l, ρ id = some l → ρ' id = some l := fun id l hl => by rw [hout (hgap id l hl)]; exact hl
      have hsub1 : ∀ id l, ρ1 id = some l → id < (st (j + 1)).c ∧ ρ' id = some l := fun id l hl => by
        rcases h2.fresh id l hl with g | ⟨g1, g2, _⟩
        · obtain ⟨g1, g2⟩ := zy.1 g
          exact ⟨Nat.lt_of_lt_of_le g1 h2.le, hsub id l g2⟩
        · exact ⟨g2, by rw [hin ⟨g1, g2⟩]; exact hl⟩
      have hnew : ∀ id l, ((st j).c ≤ id ∧ id < (st (j + 1)).c) → ρ1 id = some l → w.heap.size ≤ l.b := fun id l hi hl => by
        rcases h2.fresh id l hl with g | ⟨_, _, g | ⟨id0, l0, g1, g2, _⟩⟩
        · have := (zy.1 g).1; omega
        · exact g
        · have := (zy.1 g2).1; omega
      have hfm : ∀ b, b < w.heap.size → w'.heap[b]? = w.heap[b]? := fun b hb => h2.frame b hb fun id l g1 g2 => absurd (hdomc id l g2) (by omega)
      refine hK ρ' _ w' (iv.next tx ok ho hD hE hA hB (v := v) ?_ ?_ ?_ h4 ?_ h1.below)
      · refine ⟨hsub, h2.size, h2.shape, h2.os, h2.tape, h2.output, fun b hb _ => hfm b hb, fun id l hl => ?_, h2.le, h2.cap⟩
        by_cases hi : (st j).c ≤ id ∧ id < (st (j + 1)).c
        · rw [hin hi] at hl
          exact .inr ⟨hi.1, hi.2, .inl (hnew id l hi hl)⟩
        · rw [hout hi] at hl; exact .inl hl
      · intro m hm hcm
        have hcm' : Cond ops listed m := fun k ok' hk hfk => by
          rw [hcm k ok' hk hfk, hset]
          exact ⟨fun h => h.resolve_left (hnf k ok' hk hfk), fun h => .inr h⟩
        have hR := iv.rel m hm hcm'
        have hkeep : j + 1 ≤ m → ∀ id, id < (st (j + 1)).c → (st m).h.get id = (st (j + 1)).h.get id := fun hjm id hid => tx.keep hjm hm (fun k ok' hk k1 k2 hfk => by
          have := (hc k ok' hk hfk).2 ((hcm' k ok' hk hfk).1 k2); omega) id hid
        have hjm : ∀ {id : Nat}, ((st j).c ≤ id ∧ id < (st (j + 1)).c) → id < (st m).c → j + 1 ≤ m := fun {id} hi hid => by
          rcases Nat.lt_or_ge j m with h | h
          · exact h
          · have := tx.le h (by omega : j ≤ ops.size); omega
        refine ⟨h1.below, ?_, ?_⟩
        · intro id l hl
          obtain ⟨g1, g2⟩ := zy.1 hl
          by_cases hi : (st j).c ≤ id ∧ id < (st (j + 1)).c
          · rw [hin hi] at g2
            have hm1 := hjm hi g1
            obtain ⟨b, k1, k2, k3, k4⟩ := h1.blk id l g2
            refine ⟨b, by rw [hkeep hm1 id hi.2]; exact k1, k2, BR.mono (fun id' l' hl' => ?_) (fun b vs t fr h => ⟨vs, fr, h, rfl⟩) k3 rfl, k4⟩
            obtain ⟨q1, q2⟩ := hsub1 id' l' hl'
            exact zy.2 ⟨Nat.lt_of_lt_of_le q1 (tx.le hm1 hm), q2⟩
          · rw [hout hi] at g2
            obtain ⟨b, k1, k2, k3, k4⟩ := hR.blk id l (zy.2 ⟨g1, g2⟩)
            refine ⟨b, k1, Nat.lt_of_lt_of_le k2 h2.size, BR.mono (fun id' l' hl' => ?_) h2.shape k3 (hfm _ k2), k4⟩
            obtain ⟨q1, q2⟩ := zy.1 hl'
            exact zy.2 ⟨q1, hsub _ _ q2⟩
        · intro id id' l l' b g1 g2 g3 g4 g5
          obtain ⟨g1a, g1b⟩ := zy.1 g1
          obtain ⟨g2a, g2b⟩ := zy.1 g2
          by_cases hi : (st j).c ≤ id ∧ id < (st (j + 1)).c
          · rw [hin hi] at g1b
            by_cases hi' : (st j).c ≤ id' ∧ id' < (st (j + 1)).c
            · rw [hin hi'] at g2b
              rw [hkeep (hjm hi g1a) id hi.2] at g4
              rw [hkeep (hjm hi' g2a) id' hi'.2]
              exact h1.inj id id' l l' b g1b g2b g3 g4 g5
            · rw [hout hi'] at g2b
              have q1 := hnew id l hi g1b
              have q2 := iv.lt id' l' g2b
              omega
          · rw [hout hi] at g1b
            by_cases hi' : (st j).c ≤ id' ∧ id' < (st (j + 1)).c
            · rw [hin hi'] at g2b
              have q1 := hnew id' l' hi' g2b
              have q2 := iv.lt id l g1b
              omega
            · rw [hout hi'] at g2b
              exact hR.inj id id' l l' b (zy.2 ⟨g1a, g1b⟩) (zy.2 ⟨g2a, g2b⟩) g3 g4 g5
      · refine h3.mono (fun id l hl => ?_) (fun b vs t fr h => ⟨vs, fr, h, rfl⟩)
        obtain ⟨q1, q2⟩ := hsub1 id l hl
        exact zy.2 ⟨q1, q2⟩
      · intro id l hl
        by_cases hi : (st j).c ≤ id ∧ id < (st (j + 1)).c
        · rw [hin hi] at hl
          obtain ⟨b, _, g, _⟩ := h1.blk id l hl
          exact g
        · rw [hout hi] at hl
          exact Nat.lt_of_lt_of_le (iv.lt id l hl) h2.size
end
theorem qm3 : ∀ (l : List Bool) (j : Nat), l[j]? = some false → (l.set j true).countP (! ·) + 1 = l.countP (! ·)
  | [], j, h => by simp at h
  | b :: l, 0, h => by simp at h; subst h; simp
  | b :: l, j + 1, h => by
    have := qm3 l j (by simpa using h)
    simp only [List.set_cons_succ, List.countP_cons]
    omega
theorem qsg (hgw : GW w0) (hck : CKok P gl GW ck) (hkk : CKK ck) (hn : n ≤ 1048576) : DrawOk P gl ck n w0 ro := by
  intro ops Q ρ0 s s' a w ok hs hrun hQ
  obtain ⟨st, g1, g2, g3⟩ := qm1 ops.toList 0 hrun
  have hN : ops.toList.length = ops.size := by simp
  rw [Nat.zero_add, hN] at g2
  have tx : Tx P gl ck n ro ops st := ⟨fun j o ho => by have := g3 j o (by simpa using ho); simpa using this, by rw [g1]; exact hs.top, hkk, hn⟩
  have hD0 : Dom ρ0 (st 0).c := by rw [g1]; exact hs.dom
  have fin : ∀ {listed : Array Bool} {ρ : Rh} {a' : Act} {w' : World}, Inv gl n ro w0 ops st ρ0 { w with drawn := w.drawn + 1 } listed ρ a' w' → Region.ready .any ops listed = [] → Q .normal a' w' := by
    intro listed ρ a' w' iv hre
    have hall : ∀ m j, j < m → j < ops.size → listed.getD j false = true := by
      intro m
      induction m with
      | zero => intro j h; omega
      | succ m ih =>
        intro j h hj
        obtain ⟨o, ho⟩ := qkv (ops := ops) hj
        cases hx : listed.getD j false with
        | true => rfl
        | false =>
          have : j ∈ Region.ready .any ops listed := by
            refine mem_ready.2 ⟨?_, o, ho, fun e he hb => ?_⟩
            · have hjl : j < listed.size := by rw [iv.lsize]; exact hj
              simp [hjl] at hx ⊢; exact hx
            · have := qm0 ok ho e he hb
              exact ih e.on (by omega) (by omega)
          rw [hre] at this; cases this
    have hdone : ∀ j, j < ops.size → listed.getD j false = true := fun j hj => hall (j + 1) j (by omega) hj
    have hdomN : Dom ρ (st ops.size).c := iv.ext.dom hD0
    have hr := iv.rel ops.size (Nat.le_refl _) fun k o hk _ => ⟨fun h => hdone k h, fun _ => (Array.getElem?_eq_some_iff.1 hk).1⟩
    rw [qa3 hdomN, g2] at hr
    refine hQ ρ a' w' ⟨iv.defers, iv.size, hr, by rw [← g2]; exact hdomN, by rw [← g2]; exact tx.top _ (Nat.le_refl _), iv.glob, fun d => ?_⟩ ?_
    · obtain ⟨m, h1, h2, h3, h4⟩ := iv.tmps d
      have : (st ops.size).t.get d = (st m).t.get d := tx.slot h1 (Nat.le_refl _) fun k o hk k1 k2 hd => by
        have := (h3 k o hk hd).2 (hdone k k2); omega
      rw [← g2, this]
      exact h4.mono (fun id l h => (zy.1 h).2) (fun b vs t fr h => ⟨vs, fr, h, rfl⟩)
    · have := iv.ext
      rw [g1, g2] at this
      exact ⟨this.sub, this.size, this.shape, this.os, this.tape, this.output, this.frame, this.fresh, this.le, this.cap⟩
  have main : ∀ (fuel : Nat) (listed : Array Bool) (ρ : Rh) (a' : Act) (w' : World), listed.toList.countP (! ·) = fuel → Inv gl n ro w0 ops st ρ0 { w with drawn := w.drawn + 1 } listed ρ a' w' → wpAny P .any ops Q fuel listed a' w' := by
    intro fuel
    induction fuel with
    | zero =>
      intro listed ρ a' w' hc iv
      have hre : Region.ready .any ops listed = [] := by
        cases hx : Region.ready .any ops listed with
        | nil => rfl
        | cons j l =>
          exfalso
          have hj : j ∈ Region.ready .any ops listed := by rw [hx]; exact List.mem_cons_self
          obtain ⟨h1, o, ho, _⟩ := mem_ready.1 hj
          have hjl : j < listed.size := by rw [iv.lsize]; exact (Array.getElem?_eq_some_iff.1 ho).1
          have h2 : listed.toList[j]? = some false := by simp [hjl] at h1 ⊢; exact h1
          have := List.countP_eq_zero.1 hc false (List.mem_of_getElem? h2)
          simp at this
      exact ⟨hre, fin iv hre⟩
    | succ fuel ih =>
      intro listed ρ a' w' hc iv
      refine ⟨fun hre => fin iv hre, fun j hj => ?_⟩
      obtain ⟨h1, o, ho, h3⟩ := mem_ready.1 hj
      have hjl : j < listed.size := by rw [iv.lsize]; exact (Array.getElem?_eq_some_iff.1 ho).1
      have h2 : listed.toList[j]? = some false := by simp [hjl] at h1 ⊢; exact h1
      have hD : ¬ listed.getD j false = true := by simp [hjl] at h1 ⊢; exact h1
      unfold wpOp
      rw [ho]
      dsimp only
      refine iv.step hgw hck tx ok ho hD h3 fun ρ' a'' w'' iv' => ih _ ρ' a'' w'' ?_ iv'
      have := qm3 listed.toList j h2
      rw [Array.toList_setIfInBounds]
      omega
  refine main ops.size (Array.replicate ops.size false) ρ0 a _ (by simp [List.countP_replicate]) ?_
  have hf0 : ∀ k, ¬ (Array.replicate ops.size false).getD k false = true := fun k => by
    rw [Array.getD_eq_getD_getElem?, Array.getElem?_replicate]
    split <;> simp
  have hbel : RowKit.Below w0.heap.size w0 { w with drawn := w.drawn + 1 } := ⟨hs.rel.below.os, hs.rel.below.tape, hs.rel.below.output, hs.rel.below.size, hs.rel.below.block⟩
  have hcut : ∀ m, m ≤ ops.size → cutR ρ0 (st m).c = ρ0 := fun m hm => qa3 fun id l hl => Nat.lt_of_lt_of_le (hD0 id l hl) (tx.le (Nat.zero_le _) hm)
  refine ⟨hs.defers, hs.size, by simp, fun j o _ h => absurd h (hf0 j), hs.glob, fun g hg => hD0 g _ (hs.glob g hg), fun id l hl => .inl (hD0 id l hl), fun id l hl => ?_, hbel, ?_, ?_, ?_⟩
  · obtain ⟨b, _, h, _⟩ := hs.rel.blk id l hl
    exact h
  · intro m hm hc
    rw [hcut m hm]
    have hr : Rel w0 ρ0 (st 0).h { w with drawn := w.drawn + 1 } := by
      rw [g1]
      exact hs.rel.still hbel (Nat.le_refl _) (fun _ _ => rfl)
    refine hr.heap fun id l hl => tx.keep (Nat.zero_le _) hm (fun k o hk _ k2 hfk => ?_) id (hD0 id l hl)
    exact hf0 k ((hc k o hk hfk).1 k2)
  · intro d
    refine ⟨0, Nat.zero_le _, .inl rfl, fun k o _ _ => ⟨fun h => by omega, fun h => absurd h (hf0 k)⟩, ?_⟩
    rw [hcut 0 (Nat.zero_le _), g1]
    exact VR.mono (w := w) (w' := { w with drawn := w.drawn + 1 }) (ρ := ρ0) (ρ' := ρ0) (fun _ _ h => h) (fun b vs t fr h => ⟨vs, fr, h, rfl⟩) (hs.tmps d)
  · exact ⟨fun _ _ h => h, Nat.le_refl _, fun b vs t fr h => ⟨vs, fr, h, rfl⟩, rfl, rfl, rfl, fun _ _ _ => rfl, fun _ _ h => .inl h, tx.le (Nat.zero_le _) (Nat.le_refl _), fun _ => tx.top _ (Nat.le_refl _)⟩
end
end Go.Ex
namespace Go.Ex
section
variable {P : Program} {gl : Nat → Bool} {GW : World → Prop} {ck : CallK}
theorem qjq : ∀ (l : List V) (k : Nat) (t : Tr V) (i : Nat), k + l.length ≤ 1048576 → (args l k t).get i = if k ≤ i ∧ i < k + l.length then l[i - k]? else t.get i
 | [], k, t, i, _ => by
  rw [if_neg (by simp)]; rfl
 | v :: l, k, t, i, h => by
  simp only [List.length_cons] at h;show (args l (k + 1) (Tr.set t k v)).get i = _;rw [qjq l (k + 1) _ i (by omega), qee (by omega)]
  by_cases h1 : i = k
  ·subst h1;rw [if_neg (by omega), if_pos rfl, if_pos (by simp)]
   simp
  ·by_cases h2 : k + 1 ≤ i ∧ i < k + 1 + l.length
   ·rw [if_pos h2, if_pos (by simp only [List.length_cons]; omega)];rw [show i - k = (i - (k + 1)) + 1 by omega, List.getElem?_cons_succ]
   ·rw [if_neg h2, if_neg h1, if_neg (by simp only [List.length_cons]; omega)]
theorem qqh {w : World} {ρ : Rh} : ∀ {l : List V} {us : List Value} (i : Nat), VL w ρ l us → VR w ρ (tmpV l[i]?) (us[i]?.getD undef)
 | _, _, i, .nil => .lit undef
 | _, _, 0, .cons h _ => h
 | _, _, i + 1, .cons _ k => qqh i k
theorem quv {w0 : World} {n : Nat} {ρ : Rh} {s : S} {a : Act} {w : World} (hs : SR w0 gl n ρ s a w) {rv : ResultVar} {v : V} (h : resV P s rv = some v) : ∃ u, (Sim.rvSem a.tmps rv).run P w = .ok u w ∧ VR w ρ v u := by
 cases rv with
 | tmp t =>
  simp only [resV, Option.some.injEq] at h;subst h;exact ⟨_, rfl, hs.tmps t⟩
 | cell t ty =>
  simp only [resV] at h
  split at h
  ·rename_i id off ht
   have := hs.tmps t;rw [ht] at this;generalize hu : a.tmps.getD t undef = u at this
   cases this with
   | @ptr _ _ l hl =>
    split at h
    ·rename_i lst hb
     obtain ⟨u, h1, h2⟩ := qis hs.rel hl hb h;exact ⟨u, by simp [Sim.rvSem, hu, asAddr, h1], h2⟩
    ·cases h
  ·cases h
theorem qm4 {w0 : World} {n : Nat} {ρ : Rh} {s : S} {a : Act} {w : World} (hs : SR w0 gl n ρ s a w) : ∀ {l : List ResultVar} {vs : List V}, resL P s l = some vs → ∃ us : List Value, (l.mapM (Sim.rvSem a.tmps)).run P w = .ok us w ∧ VL w ρ vs us
 | [], vs, h => by simp only [resL, Option.some.injEq] at h; subst h; exact ⟨[], by simp, .nil⟩
 | r :: l, vs, h => by
  simp only [resL] at h
  split at h
  ·rename_i v vs' h1 h2
   simp only [Option.some.injEq] at h;subst h;obtain ⟨u, g1, g2⟩ := quv hs h1;obtain ⟨us, g3, g4⟩ := qm4 hs h2;exact ⟨u :: us, by simp [List.mapM_cons, g1, g3], .cons g2 g4⟩
  ·cases h
theorem qsh {w0 : World} {n : Nat} {ρ : Rh} {s : S} {a : Act} {w : World} {fn : Func} {r : V × H × Nat} (hs : SR w0 gl n ρ s a w) (h : resO s.h s.c (resL P s fn.results.toList) fn.name = .ok r) : r.2 = (s.h, s.c) ∧ ∃ u, (results fn a.tmps).run P w = .ok u w ∧ VR w ρ r.1 u := by
 cases hl : resL P s fn.results.toList with
 | none => rw [hl] at h; cases h
 | some vs =>
  rw [hl] at h;obtain ⟨us, h1, h2⟩ := qm4 hs hl;have hlen := h2.length
  have hr : (results fn a.tmps).run P w = .ok (if h : us.toArray.size = 1 then us.toArray[0] else .tuple us.toArray) w := by
   rw [Sim.results_eq, Array.mapM_eq_mapM_toList];simp only [Sem.run_bind, Sem.run_map, h1, Result.andThen_ok, Sem.run_pure]
  cases h2 with
  | nil => cases h; exact ⟨rfl, _, hr, .tup .nil⟩
  | cons g k =>
   cases k with
   | nil => cases h; exact ⟨rfl, _, hr, g⟩
   | cons g2 k2 => cases h; exact ⟨rfl, _, by rw [hr, dif_neg (by simp)], .tup (.cons g (.cons g2 k2))⟩
def OrcOk (P : Program) (gl : Nat → Bool) (GW : World → Prop) (orc : Orc) : Prop := CKok P gl GW (fun f as h c ro => match orc f as h c ro with | some r => .ok r | none => .no "")
theorem qm5 {orc : Orc} (mo : P.follows .mixedOrders = true) (horc : OrcOk P gl GW orc) (hok : OrcK orc) : ∀ n, CKok P gl GW (call P gl orc n)
 | 0 => fun f as h c ro v h' c' hh => by cases hh
 | n + 1 => by
  intro f as h c ro v h' c' hh;have hh2 : callStep P gl orc (call P gl orc n) f as h c ro = .ok (v, h', c') := hh;unfold callStep at hh2
  cases ho : orc f as h c ro with
  | some r =>
   rw [ho] at hh2;refine horc f as h c ro v h' c' ?_;dsimp only;rw [ho]; exact hh2
  | none =>
   rw [ho] at hh2;dsimp only at hh2;unfold compF at hh2
   cases hf : P.funcs[f]? with
   | none => rw [hf] at hh2; cases hh2
   | some fn =>
    rw [hf] at hh2;dsimp only at hh2
    split at hh2
    ·rename_i b hnm hb hnt
     dsimp only at hh2
     cases hle : Nat.ble as.length fn.ntmps with
     | false => rw [hle] at hh2; cases hh2
     | true =>
      rw [hle, cond_true] at hh2;have hle := Nat.le_of_ble_eq_true hle;have hnt' : fn.ntmps < 65536 := Nat.le_of_ble_eq_true hnt;refine ⟨⟨fn, hf, by rw [hb]; rfl, hnm⟩, ?_⟩;intro w0 ρ w argv hgw hr hd hct hg hv;have hlen := hv.length;refine calls_of_wp hf hb ?_
      have hs : SR w0 gl fn.ntmps ρ ⟨args as 0 .nil, h, c⟩ { tmps := argv.toArray ++ Array.replicate (fn.ntmps - argv.toArray.size) undef, defers := [] } w := by
       refine ⟨rfl, by simp; omega, hr, hd, hct, hg, fun i => ?_⟩;show VR w ρ (tmpV ((args as 0 .nil).get i)) _;rw [qjq as 0 _ i (by omega)];rw [Array.getD_eq_getD_getElem?];rw [show (argv.toArray ++ Array.replicate (fn.ntmps - argv.toArray.size) undef) = (argv ++ List.replicate (fn.ntmps - argv.length) undef).toArray by simp];rw [List.getElem?_toArray]
       by_cases hi : i < as.length
       ·rw [if_pos (by omega), Nat.sub_zero, List.getElem?_append_left (by omega)];exact qqh i hv
       ·rw [if_neg (by omega), List.getElem?_append_right (by omega), List.getElem?_replicate];have : (Tr.nil : Tr V).get i = none := qir _;rw [this]
        split <;> exact .lit undef
      unfold endC at hh2
      cases hc : (compC P gl fn.ntmps (call P gl orc n) b).run ro ⟨args as 0 .nil, h, c⟩ with
      | no why => rw [hc] at hh2; cases hh2
      | ok xs =>
       obtain ⟨x, s'⟩ := xs;rw [hc] at hh2;have hck := qm5 mo horc hok n;refine wp_mono (qr5 mo (by omega) hgw hck (qsg hgw hck (qqg hok n) (by omega)) b hs hc) ?_;rintro e a' w' ⟨rfl, ρ', g1, g2⟩
       have fin : resO s'.h s'.c (resL P s' fn.results.toList) fn.name = .ok (v, h', c') → a'.defers = [] ∧ ∃ u, (results fn a'.tmps).run P w' = .ok u w' ∧ (∃ u' ρ', Ending.returned u = .returned u' ∧ Rel w0 ρ' h' w' ∧ Ext ro c ρ w ρ' w' c' ∧ VR w' ρ' v u') := by
        intro hres;obtain ⟨k1, u, k2, k3⟩ := qsh g1 hres;simp only [Prod.mk.injEq] at k1;obtain ⟨rfl, rfl⟩ := k1;exact ⟨g1.defers, u, k2, u, ρ', rfl, g1.rel, g2, k3⟩
       cases e with
       | normal => exact fin hh2
       | ret => exact fin hh2
       | _ => cases hh2
    ·cases hh2
end
end Go.Ex
namespace Go.Ex
section
theorem w8 {w : World} {M : Nat → Prop} {g : Nat} : ∀ {vs : List Value} {o : Nat} (_ : Sim.Cells w M g o (vs.map Sim.G.lit)) (i : Nat) (v : Value), vs[i]? = some v → w.cell? ⟨g, o + i, none⟩ = some v ∧ v.oneCell' = true
 | [], _, _, i, v, h => by simp at h
 | x :: vs, o, ⟨⟨u, h1, h2, h3⟩, h4⟩, 0, v, h => by
  simp at h; subst h
  have : u = x := h2;subst this;exact ⟨h1, h3⟩
 | x :: vs, o, ⟨_, h4⟩, i + 1, v, h => by
  have := w8 h4 i v (by simpa using h);rw [show o + (i + 1) = o + 1 + i by omega]; exact this
theorem quw {w : World} {M : Nat → Prop} {g : Nat} {ρ : Rh} {vs : List Value} (hne : vs ≠ []) (h : Sim.Cells w M g 0 (vs.map Sim.G.lit)) : BR w ρ ⟨g, 0⟩ (.fix (vs.map .lit)) := by
 obtain ⟨us, t, fr, hb⟩ : ∃ us t fr, w.heap[g]? = some (.cells us t fr) := by
  cases vs with
  | nil => exact absurd rfl hne
  | cons x vs =>
   obtain ⟨h1, _⟩ := w8 h 0 x rfl;unfold World.cell? at h1;dsimp only at h1
   split at h1
   ·rename_i c t fr hc; exact ⟨c, t, fr, hc⟩
   ·cases h1
 have hget : ∀ i v, vs[i]? = some v → us.toList[i]? = some v := fun i v hv => by
  obtain ⟨h1, _⟩ := w8 h i v hv;unfold World.cell? at h1;rw [Nat.zero_add] at h1;simp only [hb] at h1;rw [Array.getElem?_toList]
  simpa using h1
 have hlen : vs.length ≤ us.toList.length := by
  rcases Nat.lt_or_ge us.toList.length vs.length with hl | hl
  ·have := hget us.toList.length vs[us.toList.length] (List.getElem?_eq_getElem hl);rw [List.getElem?_eq_none (Nat.le_refl _)] at this
   cases this
  ·exact hl
 refine ⟨us, t, fr, hb, by simpa using hlen, ?_⟩
 have : (us.toList.drop 0).take (vs.map V.lit).length = vs := by
  apply List.ext_getElem?
  intro i;rw [List.drop_zero, List.length_map, List.getElem?_take]
  split
  ·rename_i hi
   rw [List.getElem?_eq_getElem hi];exact hget i _ (List.getElem?_eq_getElem hi)
  ·rw [List.getElem?_eq_none (by omega)]
 rw [this]
 exact VC.lits fun v hv => by
  obtain ⟨i, hi⟩ := List.getElem?_of_mem hv;exact (w8 h i v hi).2
theorem qm6 {w : World} {ρ : Rh} : ∀ (vs : List Value), VL w ρ (vs.map .lit) vs
 | [] => .nil
 | v :: vs => .cons (.lit v) (qm6 vs)
theorem fits_lits {w : World} {M : Nat → Prop} : ∀ {vs us : List Value}, Sim.FitsT w M (vs.map Sim.G.lit) us → us = vs
 | [], [], _ => rfl
 | v :: vs, u :: us, h => by rw [show u = v from h.1, fits_lits h.2]
 | [], _ :: _, h => h.elim
 | _ :: _, [], h => h.elim
def GWof (E : Sim.Env) (w : World) : Prop := Sim.GlOk E w fun _ => False
theorem qwh {E : Sim.Env} {w : World} {M : Nat → Prop} (h : Sim.GlOk E w M) : GWof E w := fun g vs hg => ⟨⟨fun h => h, (h g vs hg).1.2⟩, (h g vs hg).2.mono (fun _ _ _ => rfl) (fun _ _ h => h.elim) (h g vs hg).1.1⟩
theorem j8 {E : Sim.Env} {gl : Nat → Bool} {orc : Orc} {h0 : H} {c0 ro n : Nat} {f : FuncId} {vs : List Value} {v : Value} {h' : H} {c' : Nat} (horc : OrcOk E.P gl (GWof E) orc) (hok : OrcK orc)
  (hc0 : c0 ≤ 1048576) (hg : ∀ g, gl g = true → g < c0 ∧ ∃ vs, vs ≠ [] ∧ (g, vs) ∈ E.gl ∧ h0.get g = some (.fix (vs.map .lit)))
  (hrun : call E.P gl orc n f (vs.map .lit) h0 c0 ro = .ok (.lit v, h', c')) : Sim.Con E f (vs.map Sim.G.lit) (.lit v) := by
 intro w M us hM hgl hv;have := fits_lits hv;subst this
 let ρ : Rh := fun g => if gl g = true then some ⟨g, 0⟩ else none
 have hρ : ∀ {g : Nat} {l : Loc}, ρ g = some l → gl g = true ∧ l = ⟨g, 0⟩ := by
  intro g l h
  by_cases hgg : gl g = true
  ·rw [show ρ g = some ⟨g, 0⟩ from if_pos hgg] at h;exact ⟨hgg, (Option.some.inj h).symm⟩
  ·rw [show ρ g = none from if_neg hgg] at h; cases h
 have hw := qwh hgl
 have hr : Rel w ρ h0 w := by
  refine ⟨Sim.Grow.refl w, fun id l hl => ?_, fun id id' l l' b h1 h2 h3 h4 h5 => ?_⟩
  ·obtain ⟨g1, rfl⟩ := hρ hl;obtain ⟨g2, vs, g3, g4, g5⟩ := hg id g1;exact ⟨_, g5, (hw id vs g4).1.2, quw g3 (hw id vs g4).2, fun h => by cases h⟩
  ·obtain ⟨g1, rfl⟩ := hρ h1;obtain ⟨g1', rfl⟩ := hρ h2;exact .inl h3
 obtain ⟨_, H⟩ := qm5 E.orders horc hok n f _ h0 c0 ro _ h' c' hrun;refine (H w ρ w us hw hr (fun id l hl => (hg id (hρ hl).1).1) hc0 (fun g h => if_pos h) (qm6 us)).mono ?_;rintro e w' ⟨u, ρ', rfl, h1, h2, h3⟩;exact ⟨u, rfl, h1.below, h3.lit_inv⟩
theorem xt {E : Sim.Env} {gl : Nat → Bool} : OrcOk E.P gl (GWof E) (fun _ _ _ _ _ => none) := fun f as h c ro v h' c' e => by cases e
theorem vz : OrcK (fun _ _ _ _ _ => none) := fun f as h c ro v h' c' e => by cases e
theorem qf4 {E : Sim.Env} {gl : Nat → Bool} {f : FuncId} {vs : List Value} {r : Value} (hk : Sim.Known E.P f) (hc : Sim.Con E f (vs.map Sim.G.lit) (.lit r)) {h : H} {c ro : Nat} :
  Sim.Known E.P f ∧ ∀ w0 ρ w (args : List Value), GWof E w0 → Rel w0 ρ h w → Dom ρ c → c ≤ 1048576 → (∀ g, gl g = true → ρ g = some ⟨g, 0⟩) → VL w ρ (vs.map .lit) args →
  Calls E.P f args.toArray w fun e w' => ∃ u ρ', e = .returned u ∧ Rel w0 ρ' h w' ∧ Ext ro c ρ w ρ' w' c ∧ VR w' ρ' (.lit r) u := by
 refine ⟨hk, fun w0 ρ w args hw hr hd hct hg hv => ?_⟩
 have : ∀ {l : List Value} {us : List Value}, VL w ρ (l.map .lit) us → us = l := by
  intro l
  induction l with
  | nil => intro us h; cases h; rfl
  | cons x l ih => intro us h; cases h with | cons h k => rw [h.lit_inv, ih k]
 have := this hv;subst this
 have hgl : Sim.GlOk E w fun _ => False := fun g vs hg => by
  have h1 := hw g vs hg;exact ⟨⟨fun h => h, Nat.lt_of_lt_of_le h1.1.2 hr.below.size⟩, h1.2.mono (fun b hb _ => hr.below.block b hb) (fun _ _ h => h) (fun h => h)⟩
 refine (hc w (fun _ => False) args (fun _ h => h.elim) hgl ?_).mono ?_
 ·have : ∀ l : List Value, Sim.FitsT w (fun _ => False) (l.map Sim.G.lit) l := by
   intro l
   induction l with
   | nil => trivial
   | cons x l ih => exact ⟨rfl, ih⟩
  exact this args
 ·rintro e w' ⟨u, rfl, h1, h2⟩;have h2 : u = r := h2;subst h2;have hfm : ∀ b, b < w.heap.size → w'.heap[b]? = w.heap[b]? := fun b hb => h1.block b hb;have hb : RowKit.Below w0.heap.size w0 w' := RowKit.Below.trans hr.below (RowKit.Below.mono h1 hr.below.size);exact ⟨u, ρ, rfl, hr.still hb h1.size hfm, ⟨fun _ _ h => h, h1.size, xq hfm, h1.os, h1.tape, h1.output, fun b hb _ => hfm b hb, fun _ _ h => .inl h, Nat.le_refl _, fun h => h⟩, .lit u⟩
end
end Go.Ex
